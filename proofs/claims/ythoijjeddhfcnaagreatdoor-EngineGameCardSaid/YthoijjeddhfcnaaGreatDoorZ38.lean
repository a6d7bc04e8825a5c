import Derived.Test.YthoijjeddhfcnaaGreatDoorZ35
import Derived.Test.YthoijjeddhfcnaaGreatDoorZ30
import Derived.RecoverIn
import Derived.Test.YthoijjeddhfcnaaGreatDoorZ37
import Derived.Test.YthoijjeddhfcnaaGreatDoorZ31
set_option maxHeartbeats 4000000
set_option maxRecDepth 100000
set_option linter.unusedSimpArgs false
set_option linter.unusedVariables false
namespace Go.Proofs.YthoijjeddhfcnaaGreatDoor
open Go.RowKit Go.Shelf
theorem CX(c0 c1 c2 c3 c4:Value)(F:HL):SpD Tryz.prog 38 #[c0,c1,c2,c3,c4] [] F (λ _ H'=>H'=[]):=by
 intro w hR
 refine callsDIn_of_wpSIn (F:=Wr none) (n:=0) Tryz.func38 rfl trivial λ c₀ cs hu=>?_
 have Xh:recoverD (c₀::cs)=none:=by simp[recoverD,hu]
 refine wpSIn_seq (wpSIn_region ?_)
 show wpOpsSIn _ _ _ _ _ [0,1] _ _ _
 simp only[wpOpsSIn,List.getElem?_toArray,List.getElem?_cons_zero,List.getElem?_cons_succ]
 simp[wpOpsSIn,go_sem,Xh,Tryz.ntmps38,Exit.thenS]
 refine wpSIn_cond (t:=false) (by simp[Act.eval,Array.replicate]) ?_
 refine wpSIn_of_wpIn rfl ?_
 refine wpIn_skip ?_
 simp[bodyPostS,results,Tryz.results38,hu]
 exact⟨.returning,by cases c₀;simp at hu;subst hu;rfl,hu ▸ rfl,hR,Below.refl _ _⟩
theorem sR(c0 c1 c2 c3 c4:Value)(F:HL):SpD Tryz.prog 38 #[c0,c1,c2,c3,c4] (ap [] []) F (λ _ H'=>∃_:Unit,H'=ap [] [] /\ True):=by
 exact(CX c0 c1 c2 c3 c4 F).mono λ u H' h=>⟨(),h,trivial⟩
theorem AZ{S:Setup}(h:S.nb<2):∀ (k:Nat) (M:MemS),iH S k M=M
 | 0,_=>rfl
 | k+1,M=>by
  have e:mt S 0 S.nb M=M:=by
   obtain h0|h0:S.nb=0 \/ S.nb=1:=by omega
   ·rw[h0];rfl
   ·rw[h0];rfl
  rw[iH,e]
  exact AZ h k M
theorem Mr{S:Setup}(M:MemS):nU S M=rj S 0 S.nb (iH S S.rounds.toNat M):=by
 unfold nU
 split
 ·next h=>rw[AZ h]
 ·rfl
def kU(S:Setup):Int:=S.players+(S.players+1+S.nb)*(S.fuel+3)+2*S.nb+4
theorem Ms{S:Setup}(hV:SetV S){ins:Nat -> Inp}{B:MemS}(h:TV S ins B)(h5:B.get 1≠5):0<lE S B:=by
 have hn:=hV.nb
 have hP:=hV.pl
 have SH:=tY hV.pl ⟨by omega,by omega⟩ hV.ro h.ct
 have h6:0<l6 S.nb 0 0 0:=by unfold l6;rw[if_pos rfl];omega
 have h3:∀i,i<(S.nb:Int) -> l4 S.nb S.rounds 0 1 0<l3 S.nb S.rounds i:=λ i hi=>by unfold l3;omega
 have h2:∀j fu,0 <= fu -> l4 S.nb S.rounds 0 1 0<l2 S.nb S.rounds j fu:=λ j fu hf=>by
  have:=h3 0 (by omega)
  unfold l2;split <;> omega
 have h1:∀i j fu,i <= S.players -> (j=0 \/ (i<S.players /\ 0 <= fu)) -> l4 S.nb S.rounds 0 1 0<l1 S.players S.nb S.rounds i j fu:=λ i j fu hi hj=>by
  have:=h2 0 0 (by omega)
  unfold l1;split <;> omega
 have h0:∀i,i<S.players -> l4 S.nb S.rounds 0 1 0<l0 S.players S.nb S.rounds i:=λ i hi=>by
  have:=h1 0 0 0 (by omega) (.inl rfl)
  unfold l0;omega
 unfold lE
 by_cases c3:B.get 1 <= 3
 ·rw[if_pos c3]
  have key:l4 S.nb S.rounds 0 1 0<jc S B:=by
   rcases h.ct with ⟨c,d⟩|⟨c,d⟩|⟨c,d⟩|⟨c,d⟩|⟨c,d⟩|⟨c,d⟩|⟨c,d⟩|⟨c,d⟩
   ·unfold jc xj;rw[if_pos c];exact h0 _ d.2
   ·unfold jc xj;rw[if_neg (by omega),if_pos c]
    refine h1 _ _ _ d.2.1 ?_
    rcases d.2.2 with e|e
    ·exact .inl e
    ·exact .inr ⟨e.2.1,e.2.2.1⟩
   ·unfold jc xj;rw[if_neg (by omega),if_neg (by omega),if_pos c]
    rcases d with e|e
    ·rw[e]
     have:=h3 0 (by omega)
     unfold l2;rw[if_pos rfl];omega
    ·exact h2 _ _ e.2.1
   ·unfold jc xj;rw[if_neg (by omega),if_neg (by omega),if_neg (by omega),if_pos c];exact h3 _ d.2
   all_goals omega
  omega
 ·rw[if_neg c3]
  by_cases c4:B.get 1=4
  ·rw[if_pos c4];omega
  ·rw[if_neg c4];exact SH
structure EnI(g:Gm)(ins:Nat -> Inp)(F:MemS)(fes:List Eff)(m:Int)(N:MemS)(es:List Eff)(j:Nat):Prop where
 bi:BiA g.S N
 en:∃B,EnS g ins F fes B N es /\ lE g.S B+j <= m
 bd:es.length <= j
theorem EnI.lt{g:Gm}(hV:SetV g.S){ins:Nat -> Inp}{F N:MemS}{fes es:List Eff}{m:Int}{j:Nat}(h:EnI g ins F fes m N es j):(j:Int)<m:=by
 obtain⟨B,h1,h2⟩:=h.en
 have:=Ms hV h1.tv h1.n5
 omega
theorem EnI.len{g:Gm}{ins:Nat -> Inp}{F N:MemS}{fes es:List Eff}{m:Int}{j:Nat}(h:EnI g ins F fes m N es j):(N.cs.length:Int)=sizeOf g.S:=by
 obtain⟨B,h1,h2⟩:=h.en
 rw[<- h1.r4.1]
 exact h1.tv.len
theorem EnI.tr{g:Gm}(hV:SetV g.S){ins:Nat -> Inp}(hi:∀q:Nat,(q:Int)<g.S.players -> g.ins.getD (g.io+q) dI=ins q)(Pq:g.S.players <= g.ni){F N:MemS}{fes es:List Eff}{m:Int}{j:Nat}(h:EnI g ins F fes m N es j)(AT:N.get 1≠4) :
  qQ N /\ ((fB g N=false /\ EnI g ins F fes m (dp g N) (es++if (cF g N).em=true then [(cF g N).e] else []) (j+1)) \/ (fB g N=true /\ (dp g N).cs=F.cs /\ (es++if (cF g N).em=true then [(cF g N).e] else [])=fes /\ BiA g.S (dp g N))):=by
 obtain⟨B,h1,h2⟩:=h.en
 obtain⟨a,b⟩:=h1.tr hV hi Pq AT
 have YR:=NZ hV h.bi AT (λ e=>h1.n5 ((h1.r4.2 1 (by decide)).trans e))
 refine⟨a,?_⟩
 rcases b with ⟨b1,b2,b3⟩|⟨b1,b2,b3⟩
 ·refine .inl ⟨b1,YR,⟨_,b2,by omega⟩,?_⟩
  have:=h.bd
  rw[List.length_append]
  split <;> simp <;> omega
 ·exact .inr ⟨b1,b2,b3,YR⟩
theorem EnI.col{g:Gm}(hV:SetV g.S)(hB:BoxV g.S){ins:Nat -> Inp}(hi:∀q:Nat,(q:Int)<g.S.players -> g.ins.getD (g.io+q) dI=ins q)(Pq:g.S.players <= g.ni){F N N':MemS}{fes es:List Eff}{m:Int}{j:Nat}(h:EnI g ins F fes m N es j)(h4:N.get 1=4)(hc:ColR g.S N N'):EnI g ins F fes m N' es (j+1):=by
 obtain⟨B,h1,h2⟩:=h.en
 obtain⟨B',b1,b2⟩:=h1.col hV hi Pq h4 hc
 have hP:=hV.pl
 exact⟨Mi (by omega) (Mh hB h.bi) hc.ag,⟨B',b1,by omega⟩,Nat.le_succ_of_le h.bd⟩
theorem CY{g:Gm}(hV:SetV g.S)(Pq:g.S.players <= g.ni){t:Int}(ht:0 <= t /\ t <= 1000){M:MemS}(h:TE2 g.S t M)(hb:BiA g.S M)(hf:g.S.fuel=60):∃ins,(∀q:Nat,(q:Int)<g.S.players -> g.ins.getD (g.io+q) dI=ins q) /\ EnI g ins (oC g M) (ov g M) (kU g.S) M [] 0:=by
 obtain⟨ins,h1,h2,h3⟩:=CL hV Pq ht h
 have hn:=hV.nb
 have hP:=hV.pl
 refine⟨ins,h1,hb,⟨M,h2,?_⟩,Nat.zero_le _⟩
 unfold kU
 rw[hf]
 omega
theorem xa{S:Setup}(hV:SetV S):0<kU S /\ kU S <= 600:=by
 have hn:=hV.nb
 have hP:=hV.pl
 have hf:=hV.fu
 unfold kU
 have h1:(S.players+1+S.nb)*(S.fuel+3) <= (S.players+1+S.nb)*63:=Int.mul_le_mul_of_nonneg_left (by omega) (by omega)
 have h2:0 <= (S.players+1+S.nb)*(S.fuel+3):=Int.mul_nonneg (by omega) (by omega)
 omega
theorem CZ(S:Setup)(F:HL)(hV:SetV S):Sp Tryz.prog 39 #[(Setup.v S)] [] F (λ u H'=>u=vI (kU S) /\ H'=[]):=by
 have hP:=hV.pl
 have hN:=hV.nb
 have hf:=hV.fu
 have hm:=xa hV
 unfold kU at hm
 have h1:(S.players+1+S.nb)*(S.fuel+3) <= (S.players+1+S.nb)*63:=Int.mul_le_mul_of_nonneg_left (by omega) (by omega)
 have h2:0 <= (S.players+1+S.nb)*(S.fuel+3):=Int.mul_nonneg (by omega) (by omega)
 refine Sp.run Tryz.func39 rfl mn (A:=[]) (Ts:=[]) rfl λ w0=>?_
 refine aq 35 [.own 0,.own 0,.own 0,.nw,.nw,.own 0,.nw,.nw,.nw,.nw,.nw,.nw] [bF (((S.players+(((S.players+1)+(S.nb:Int))*(S.fuel+3)))+(2*(S.nb:Int)))+4),bF ((S.players+(((S.players+1)+(S.nb:Int))*(S.fuel+3)))+(2*(S.nb:Int))),bF (2*(S.nb:Int)),bF (S.players+(((S.players+1)+(S.nb:Int))*(S.fuel+3))),bF (((S.players+1)+(S.nb:Int))*(S.fuel+3)),bF (S.fuel+3),bF ((S.players+1)+(S.nb:Int)),bF (S.players+1)] λ n1=>?_
 exact RN.ret [] [] [] ⟨rfl,rfl⟩
theorem zb(S:Setup)(mb k:Nat)(M:MemS)(A:Option Addr)(n cap:Nat)(xs:List Inp)(T F:HL)(hM:MemH mb M k T)(hT:∀x∈T,x∈F)(hl:RowL mN 93 F A n xs)(hn:n <= 1000000):Sp Tryz.prog 37 #[vP mb 0,(Setup.v S),.slice A n cap] [] F (λ u H'=>u=vI (cV S.players n xs (M.get 0)) /\ H'=[]):=by
 refine Sp.run Tryz.func37 rfl mn (A:=[]) (Ts:=[]) rfl λ w0=>?_
 refine aa 16 [.own 0] λ n1=>RN.en ((n:Int)=S.players) 13 (λ h2=>?_) λ h2=>?_
 ·refine aa 12 [] λ _=>RN.loop (σ:=Nat) (λ k_=>⟨[(0,vP mb 0),(14,.slice A n cap),(15,vI (n:Int)),(16,vI (k_:Int))],[((n1+0),.lit (Setup.l S) 31 (0,0))],[],k_ <= n /\ ∀t,t<k_ -> i9 (xs.getD t dI),n-k_⟩) 0 [0] [] (⟨Nat.zero_le _,λ t ht=>absurd ht (Nat.not_lt_zero _)⟩) ?_
  rintro k_ ⟨Wy,aT⟩ Sq
  refine aa 6 [] λ _=>RN.em ((k_:Int)<(n:Int)) 17 (λ h5=>?_) λ h5=>?_
  ·refine aa 7 [] λ _=>?_
   obtain⟨qx6,Qo,Ws,fx6,Yf,R8,SG,Xp,SN⟩:=hl.at (k:=k_) (by omega)
   refine bZ 14 (congrArg (λ v_=>(.slice v_ n cap:Value)) R8)<|RN.ro (λ _=>(mc SG mn))<|aq 2 [.ix k_,.rorow 0 (Qo+k_) 0,.rorow 0 (Qo+k_) 1,.rorow 0 (Qo+k_) 2] [((Qo*3+k_*3)+2)=(Qo+k_)*3+2 /\ (Qo+k_)<Ws,((Qo*3+k_*3)+1)=(Qo+k_)*3+1 /\ (Qo+k_)<Ws,(Qo*3+k_*3)=(Qo+k_)*3+0 /\ (Qo+k_)<Ws,(k_:Int)=((k_:Nat):Int) /\ k_<n] λ _=>bZ 19 (congrArg (λ v_=>(.agg #[vI v_.dx,vI v_.dy,vI v_.act]:Value)) SN)<|aa 10 [.own 0,.own 0,.own 0,.own 0] λ n7=>RN.em ((xs.getD k_ dI).dx<(-1)) 23 (λ h8=>?_) λ h8=>?_
   ·refine aa 32 [] λ _=>RN.ret [] [] [] (v:=vI 1) (H':=[]) ?_
    exact⟨by rw[cV,if_pos (by omega),if_neg (λ h_=>by have L_:=h_ k_ (by omega);unfold i9 at L_;omega)],rfl⟩
   ·refine aa 5 [.own 0] λ _=>RN.em ((xs.getD k_ dI).dx>1) 28 (λ h9=>?_) λ h9=>?_
    ·refine aa 27 [] λ _=>RN.ret [] [] [] (v:=vI 1) (H':=[]) ?_
     exact⟨by rw[cV,if_pos (by omega),if_neg (λ h_=>by have L_:=h_ k_ (by omega);unfold i9 at L_;omega)],rfl⟩
    ·refine aa 5 [.own 0] λ _=>RN.em ((xs.getD k_ dI).dy<(-1)) 33 (λ Qe=>?_) λ Qe=>?_
     ·refine aa 22 [] λ _=>RN.ret [] [] [] (v:=vI 1) (H':=[]) ?_
      exact⟨by rw[cV,if_pos (by omega),if_neg (λ h_=>by have L_:=h_ k_ (by omega);unfold i9 at L_;omega)],rfl⟩
     ·refine aa 5 [.own 0] λ _=>RN.em ((xs.getD k_ dI).dy>1) 38 (λ P0=>?_) λ P0=>?_
      ·refine aa 17 [] λ _=>RN.ret [] [] [] (v:=vI 1) (H':=[]) ?_
       exact⟨by rw[cV,if_pos (by omega),if_neg (λ h_=>by have L_:=h_ k_ (by omega);unfold i9 at L_;omega)],rfl⟩
      ·refine aa 5 [.own 0] λ _=>RN.em ((xs.getD k_ dI).act<0) 43 (λ PN=>?_) λ PN=>?_
       ·refine aa 12 [] λ _=>RN.ret [] [] [] (v:=vI 1) (H':=[]) ?_
        exact⟨by rw[cV,if_pos (by omega),if_neg (λ h_=>by have L_:=h_ k_ (by omega);unfold i9 at L_;omega)],rfl⟩
       ·refine aa 6 [.own 0] λ _=>RN.em ((xs.getD k_ dI).act>3) 47 (λ Qd=>?_) λ Qd=>?_
        ·refine aa 6 [] λ _=>RN.ret [] [] [] (v:=vI 1) (H':=[]) ?_
         exact⟨by rw[cV,if_pos (by omega),if_neg (λ h_=>by have L_:=h_ k_ (by omega);unfold i9 at L_;omega)],rfl⟩
        ·refine aq 8 [.nw] [bF ((k_:Int)+1)] λ _=>bZ 14 (congrArg (λ v_=>(.slice v_ n cap:Value)) R8.symm) ?_
         refine Sq (k_+1) [1] [] ?_
         try dsimp only
         refine⟨⟨by omega,λ t ht=>?_⟩,by omega⟩
         rcases Nat.lt_or_ge t k_ with h_|h_
         ·exact aT t h_
         ·obtain rfl:t=k_:=by omega
          exact⟨⟨h8,h9⟩,⟨Qe,P0⟩,PN,Qd⟩
  ·refine aa 10 [] λ _=>al (aB 0 hM (λ x hx=>bK (hT x hx)))<|aa 3 [] λ _=>RN.em (M.get 0 >= 6000) 51 (λ QD=>?_) λ QD=>?_
   ·refine aa 6 [] λ _=>RN.ret [] [] [] (v:=vI 2) (H':=[]) ?_
    exact⟨by rw[cV,if_pos (by omega),if_pos (λ t ht=>aT t (by omega)),if_pos (by omega)],rfl⟩
   ·refine aa 8 [] λ _=>RN.ret [] [] [] (v:=vI 0) (H':=[]) ?_
    exact⟨by rw[cV,if_pos (by omega),if_pos (λ t ht=>aT t (by omega)),if_neg (by omega)],rfl⟩
 ·refine aa 6 [] λ _=>RN.ret [] [] [] (v:=vI 17) (H':=[]) ?_
  exact⟨by rw[cV,if_neg (by omega)],rfl⟩
theorem He(e:Int)(S:Setup)(mb k:Nat)(M:MemS)(A:Option Addr)(n cap:Nat)(xs:List Inp)(T F:HL)(hM:MemH mb M k T)(hT:∀x∈T,x∈F)(hl:RowL mN 93 F A n xs)(hn:n <= 1000000)(he:cV S.players n xs (M.get 0)=e):Sp Tryz.prog 37 #[vP mb 0,Setup.v S,.slice A n cap] [] F (λ u H'=>u=vI e /\ H'=[]):=he ▸ zb S mb k M A n cap xs T F hM hT hl hn
theorem C0(S:Setup)(mb ib io N ni ic c k:Nat)(A:Option Addr)(j:Nat × Int)(full xs:List Inp)(M:MemS)(T F:HL)(hx:∀k,k<ni -> full.getD (io+k) dI=xs.getD k dI)(hM:MemH mb M (k+20) T)(hg:GmIn F (⟨S,A,eO j.1,c,bC j.1 0,bC j.1 1,bC j.1 2,j.2,ib,io,ni,ic,N,full,jF j.1⟩:Gm))(h0:qQ M):Sp Tryz.prog 292 #[.agg #[vP mb 0,vI S.players,vS S.bb (S.bo*9) S.nb S.bc,vI S.box.x0,vI S.box.y0,vI S.box.x1,vI S.box.y1,.slice S.rA S.rn S.rc,.slice S.dA S.dn S.dc,vI S.fog,vI S.g.x,vI S.g.y,vI S.push,vI S.drag,vI S.rest,vI S.rounds,vI S.fuel,.slice A (eO j.1) c,vI (bC j.1 0),vI (bC j.1 1),vI (bC j.1 2),vI j.2,vS ib (io*3) ni ic]] (ap [] [T]) F (λ u H'=>∃x,H'=ap [] [x] /\ (MemH mb (dp (db S j ni xs) M) k x /\ u=.tuple #[.bool (fB (db S j ni xs) M),.agg #[vI ((cF (db S j ni xs) M).e.t),vI ((cF (db S j ni xs) M).e.i),vI ((cF (db S j ni xs) M).e.k),vI ((cF (db S j ni xs) M).e.v)],.bool ((cF (db S j ni xs) M).em)])):=by
 refine Sp.run Tryz.func292 rfl mn (A:=[]) (Ts:=[T]) rfl λ w0=>?_
 refine aa 21 (ow 1 23) λ n1=>RN.ct [] [0] (kS (g:=(⟨S,A,eO j.1,c,bC j.1 0,bC j.1 1,bC j.1 2,j.2,ib,io,ni,ic,N,full,jF j.1⟩:Gm)) (qp hx) mb M k T _ hM (hg.up (X:=_)) h0 j.2 rfl) ?_
 rintro _ T2 ⟨P6,rfl⟩
 refine aa 8 [.own 0,.own 0,.own 0,.own 0] λ _=>RN.ret [.own 0,.own 0,.own 0,.own 0] [] [0] (v:=.tuple #[.bool (fB (db S j ni xs) M),.agg #[vI ((cF (db S j ni xs) M).e.t),vI ((cF (db S j ni xs) M).e.i),vI ((cF (db S j ni xs) M).e.k),vI ((cF (db S j ni xs) M).e.v)],.bool ((cF (db S j ni xs) M).em)]) (H':=(ap [] [T2])) ?_
 exact⟨T2,rfl,P6,rfl⟩
theorem Hf(S:Setup)(mb k:Nat)(M:MemS)(T F:HL)(hS:SetIn F S)(hV:SetV S)(hB:BoxV S)(hm:∀k,k<S.nb -> GH (S.body k).sh)(hA:BiA S M)(Xw:(M.cs.length:Int)=sizeOf S)(hM:MemH mb M (k+4+5*S.nb) T):Sp Tryz.prog 41 #[vP mb 0,(Setup.v S)] (ap [] [T]) F (λ u H'=>∃x:(Int × Int × Int) × MemS × HL,H'=ap [] [x.2.2] /\ (ColR S M x.2.1 /\ MemH mb x.2.1 k x.2.2 /\ u=.agg #[vI x.1.1,vI x.1.2.1,vI x.1.2.2])):=by
 have hcM:M.cs.length <= 1000000:=by have PY:=hV.pl;have L_:=hV.nb;have TM:sizeOf S=48+4*S.players+8*S.nb:=rfl;omega
 refine Sp.run Tryz.func41 rfl mn (A:=[]) (Ts:=[T]) rfl λ w0=>?_
 refine aa 10 (ow 1 16) λ n1=>RN.ct (Hp:=[]) (Tp:=[]) [] [] (CU S mb (k+4+5*S.nb) M T _ hS.up hM (aS 0) Xw hcM) ?_
 rintro _ ⟨⟨Zc,bb_,UY,Za⟩,U2,U1,Uz⟩ ⟨S0,rfl⟩
 dsimp only at S0
 refine aa 6 [] λ _=>RN.ct [0,1,2,3] [] (ug S Zc bb_ UY Za S.nb 0 0 0 M U2 U1 Uz _ hS.up hV rfl S0 (by omega) (by omega)) ?_
 rintro _ ⟨RT,QE,Uw,PY,TA⟩ ⟨R3,Xo,XN⟩
 dsimp only at R3 Xo XN
 refine aa 5 [] λ _=>RN.ct [0,1,3] [] (CS S Zc bb_ UY Za S.nb RT QE 0 (iH S S.rounds.toNat M) Uw PY TA _ hS.up hV hB hm rfl R3 (yV _ hA) (by omega)) ?_
 rintro _ ⟨TC,b2_,Zb⟩ ⟨Ug,QG⟩
 dsimp only at Ug QG
 refine aa 6 [] λ _=>RN.ct [] [0] (CW S Zc bb_ UY Za S.nb mb k RT QE TC M (nU S M) b2_ PY Zb T _ (aC 0) (aC 1) (aC 3) hS.up hV rfl Xw (GV S M) rfl (by rw[Mr];exact Ug) hM) ?_
 rintro _ ⟨N_,Wp⟩ ⟨Q5,QP⟩
 dsimp only at Q5 QP
 refine aa 11 [.own 0,.own 0,.own 0,.own 4,.own 4,.own 4] λ _=>RN.ret [.own 4,.own 4,.own 4] [] [0] (v:=.agg #[vI RT,vI QE,vI TC]) (H':=(ap [] [Wp])) ?_
 exact⟨((RT,QE,TC),N_,Wp),rfl,Q5,QP,rfl⟩
theorem C1(S:Setup)(mb ib io N ni ic c k:Nat)(A:Option Addr)(j:Nat × Int)(full xs:List Inp)(M F0:MemS)(fes:List Eff)(ins:Nat -> Inp)(T F:HL)(hx:∀k,k<ni -> full.getD (io+k) dI=xs.getD k dI)(hM:MemH mb M (k+30*600) T)(hg:GmIn F (⟨S,A,eO j.1,c,bC j.1 0,bC j.1 1,bC j.1 2,j.2,ib,io,ni,ic,N,full,jF j.1⟩:Gm))(hV:SetV S)(hB:BoxV S)(hm:∀k,k<S.nb -> GH (S.body k).sh)(hlen:xs.length=ni)(hi:∀q:Nat,(q:Int)<S.players -> xs.getD (0+q) dI=ins q)(Pq:S.players <= ni)(hI:EnI (db S j ni xs) ins F0 fes (kU S) M [] 0)(hw:cV S.players ni xs (M.get 0)=0):Sp Tryz.prog 14 #[vP mb 0,(Setup.v S),.agg #[.slice A (eO j.1) c,vI (bC j.1 0),vI (bC j.1 1),vI (bC j.1 2)],vI j.2,vS ib (io*3) ni ic] (ap [] [T]) F (λ u H'=>∃x:MemS × Option Addr × Nat × HL × HL × Int × Int × Int,H'=ap [] [x.2.2.2.2.1,x.2.2.2.1] /\ (x.1.cs=F0.cs /\ BiA S x.1 /\ MemH mb x.1 k x.2.2.2.2.1 /\ SlIs jm 106 fes x.2.1 x.2.2.1 x.2.2.2.1 /\ u=.tuple #[.slice x.2.1 fes.length x.2.2.1,.agg #[vI x.2.2.2.2.2.1,vI x.2.2.2.2.2.2.1,vI x.2.2.2.2.2.2.2],vI 0])):=by
 have hl:RowL mN 93 F (some ⟨ib,io*3,none⟩) ni xs:=.rows ib io N full (0,0) ni xs hg.ins hg.room.1 hlen hx
 have hmb_:=xa hV
 refine Sp.runM Tryz.func14 rfl mn (A:=[]) (Ts:=[T]) rfl λ w0=>?_
 refine aa 16 ([.own 5]++ow 4 16) λ n1=>al (He 0 S mb (k+30*600) M (some ⟨ib,io*3,none⟩) ni ic xs T _ hM (aS 0) hl.up hg.room.2 hw)<|aa 15 [.own 5] λ _=>al (vG hM (aS 0))<|aa 7 [.own 0] λ n2=>Km (g:=38) (args:=#[]) (cap:=#[vP (n1+0) 0,vP (n2+0) 0,vP (n1+3) 0,vP (n1+4) 0,vP (n1+5) 0])<|aa 18 ([.own 6]++ow 5 16++[.own 4,.own 4,.own 4,.own 4]++ow 5 16) λ _=>al (CZ S _ hV)<|aa 4 [] λ _=>RN.nt<|RN.loop (σ:=Nat × MemS × List Eff × Option Addr × Nat × HL × HL × Int × Int × Int) (λ ⟨j_,N_,IN,B_,b_,E_,T_,p_,c_,s_⟩=>⟨[(5,vP (n1+0) 0),(6,vP (n1+1) 0),(10,vP (n1+3) 0),(11,vP (n1+4) 0),(12,vP (n1+5) 0),(14,vP (n2+0) 0),(15,.iface 111 (.agg #[vP mb 0,vI S.players,vS S.bb (S.bo*9) S.nb S.bc,vI S.box.x0,vI S.box.y0,vI S.box.x1,vI S.box.y1,.slice S.rA S.rn S.rc,.slice S.dA S.dn S.dc,vI S.fog,vI S.g.x,vI S.g.y,vI S.push,vI S.drag,vI S.rest,vI S.rounds,vI S.fuel,.slice A (eO j.1) c,vI (bC j.1 0),vI (bC j.1 1),vI (bC j.1 2),vI j.2,vS ib (io*3) ni ic])),(38,vI (kU S)),(39,vI (j_:Int))],[((n2+0),.lit [vI (aV (M.base+(M.lg.length:Int)))] 3 (0,0)),((n1+5),.lit [vI 0] 34 (0,0)),((n1+4),.lit [vI p_,vI c_,vI s_] 57 (0,0)),((n1+3),.lit [.slice B_ IN.length b_] 53 (0,0)),((n1+2),.lit [.slice A (eO j.1) c,vI (bC j.1 0),vI (bC j.1 1),vI (bC j.1 2)] 50 (0,0)),((n1+1),.lit (Setup.l S) 31 (0,0)),((n1+0),.lit [vP mb 0] 41 (0,0))],[E_,T_],j_ <= 600 /\ EnI (db S j ni xs) ins F0 fes (kU S) N_ IN j_ /\ MemH mb N_ (k+30*(600-j_)) T_ /\ SlIs jm 106 IN B_ b_ E_,600-j_⟩) (0,M,[],none,0,[],T,0,0,0) [0,1,2,3,4,5,6] [0,1] (⟨Nat.zero_le _,hI,hM,SlIs.nil _ _⟩) ?_
 rintro⟨j_,N_,IN,B_,b_,E_,T_,p_,c_,s_⟩ ⟨UR,Qc,PD,P1⟩ Sq
 refine aa 6 [] λ _=>RN.em ((j_:Int)<kU S) 40 (λ h5=>?_) λ h5=>?_
 ·refine aa 7 [] λ _=>?_
  have hlt_:=EnI.lt (g:=(db S j ni xs)) hV Qc
  have hbd_:=Qc.bd
  refine aa 2 [.own 6] λ _=>al (aB 1 PD (aS 1))<|aa 3 [] λ _=>RN.em (N_.get 1=4) 43 (λ h6=>?_) λ h6=>?_
  ·refine aa 5 ([.own 6]++ow 5 16) λ _=>RN.ct [] [1] (Hf S mb (k+30*(600-(j_+1))) N_ T_ _ hg.set.up hV hB hm Qc.bi Qc.len (PD.weak (by have h_:=hV.nb;omega))) ?_
   rintro _ ⟨⟨p2_,WL,TC⟩,N2_,Wp⟩ ⟨Q5,QP,rfl⟩
   dsimp only at Q5 QP
   refine aq 11 [.own 2,.own 2,.own 2,.nw] [bF ((j_:Int)+1)] λ _=>bZ 39 (congrArg (λ v_=>(vI v_:Value)) (show (j_:Int)+1=((j_+1:Nat):Int) by omega)) ?_
   refine Sq (j_+1,N2_,IN,B_,b_,E_,Wp,p2_,WL,TC) [0,1,2,3,4,5,6] [1,0] ?_
   try dsimp only
   exact⟨⟨by omega,EnI.col (g:=(db S j ni xs)) hV hB hi Pq Qc h6 Q5,QP,P1⟩,by omega⟩
  ·refine aa 4 [] λ _=>?_
   have Sz:=EnI.tr (g:=(db S j ni xs)) hV hi Pq Qc h6
   refine aa 2 [] λ _=>RN.ct [] [1] (C0 S mb ib io N ni ic c (k+30*(600-(j_+1))) A j full xs N_ T_ _ hx (PD.weak (by omega)) (hg.up (X:=_)) Sz.1) ?_
   rintro _ T7 ⟨P4,rfl⟩
   refine aa 16 [.own 0,.own 0,.own 0,.own 0] λ n9=>RN.eb ((cF (db S j ni xs) N_).em) 53 (λ Qe=>?_) λ Qe=>?_
   ·refine aa 5 [.own 4,.own 0,.own 0,.own 0,.own 0] λ n11=>kC D8 IN [(cF (db S j ni xs) N_).e] 1 0 rfl P1 (by simp;omega) ?_
    rintro Yr Yj Sk ⟨Xg,hz16⟩
    refine aa 8 [.own 5] λ _=>RN.eb (fB (db S j ni xs) N_) 58 (λ Wl=>?_) λ Wl=>?_
    ·refine aa 2 [] λ _=>RN.draw [0,1,2,3,4] []<|fD (σ:=Unit) (λ _=>⟨[(10,vP (n1+3) 0),(11,vP (n1+4) 0),(12,vP (n1+5) 0)],[((n11+0),.lit [vI ((cF (db S j ni xs) N_).e.t),vI ((cF (db S j ni xs) N_).e.i),vI ((cF (db S j ni xs) N_).e.k),vI ((cF (db S j ni xs) N_).e.v)] 106 (0,0)),((n9+0),.lit [vI ((cF (db S j ni xs) N_).e.t),vI ((cF (db S j ni xs) N_).e.i),vI ((cF (db S j ni xs) N_).e.k),vI ((cF (db S j ni xs) N_).e.v)] 106 (0,0)),((n2+0),.lit [vI (aV (M.base+(M.lg.length:Int)))] 3 (0,0)),((n1+5),.lit [vI 0] 34 (0,0)),((n1+4),.lit [vI p_,vI c_,vI s_] 57 (0,0)),((n1+3),.lit [.slice Yr (IN.length+1) Yj] 53 (0,0)),((n1+2),.lit [.slice A (eO j.1) c,vI (bC j.1 0),vI (bC j.1 1),vI (bC j.1 2)] 50 (0,0)),((n1+1),.lit (Setup.l S) 31 (0,0)),((n1+0),.lit [vP mb 0] 41 (0,0))],[Sk,T7],True,0⟩) ?_ ?_
     ·rintro⟨⟩
      refine aa 1 [] λ _=>Gb ?_
      refine Gc (enters_of Tryz.func38 (by kernel_rfl) rfl) [] [] (sR _ _ _ _ _ _) ?_
      rintro _ _ _
      refine LV.ret [.own 5,.own 4,.own 4,.own 4,.own 3] [] [1,0] (v:=.tuple #[.slice Yr (IN.length+1) Yj,.agg #[vI p_,vI c_,vI s_],vI 0]) (H':=(ap [] [T7,Sk])) ?_
      rcases Sz.2 with ⟨PY,_⟩|⟨_,VX,Q4,SX⟩
      ·rw[Wl] at PY;cases PY
      rw[if_pos Qe] at Q4
      subst Q4
      exact⟨((dp (db S j ni xs) N_),Yr,Yj,Sk,T7,p_,c_,s_),rfl,VX,SX,P4.weak (by omega),Xg,by rw[List.length_append];rfl⟩
     ·intro Qx
      refine d5 0 1 ?_ ?_
      ·refine RDO.ev [] [.own 5] λ _=>d5 1 2 ?_ ?_
       ·refine RDO.ev [] [.own 4,.own 4,.own 4] λ _=>RD.one 2 (RDO.ev [] [.own 5] λ _=>?_)
        refine RD.one 3 (RDO.ev [] [.own 4,.own 4,.own 4] λ _=>?_)
        refine RD.one 4 (RDO.ev [] [.own 3] λ _=>?_)
        exact Qx () [0,1,2,3,4,5,6,7,8] [0,1]
       ·refine RDO.ev [] [.own 5] λ _=>RD.one 1 (RDO.ev [] [.own 4,.own 4,.own 4] λ _=>?_)
        refine RD.one 3 (RDO.ev [] [.own 4,.own 4,.own 4] λ _=>?_)
        refine RD.one 4 (RDO.ev [] [.own 3] λ _=>?_)
        exact Qx () [0,1,2,3,4,5,6,7,8] [0,1]
      ·refine RDO.ev [] [.own 4,.own 4,.own 4] λ _=>RD.one 0 (RDO.ev [] [.own 5] λ _=>?_)
       refine RD.one 2 (RDO.ev [] [.own 5] λ _=>?_)
       refine RD.one 3 (RDO.ev [] [.own 4,.own 4,.own 4] λ _=>?_)
       refine RD.one 4 (RDO.ev [] [.own 3] λ _=>?_)
       exact Qx () [0,1,2,3,4,5,6,7,8] [0,1]
    ·refine aq 8 [.nw] [bF ((j_:Int)+1)] λ _=>bZ 39 (congrArg (λ v_=>(vI v_:Value)) (show (j_:Int)+1=((j_+1:Nat):Int) by omega)) ?_
     rcases Sz.2 with ⟨_,Tm⟩|⟨PY,_⟩
     rotate_left
     ·exact absurd PY Wl
     rw[if_pos Qe] at Tm
     refine fS 5 (congrArg (λ v_=>(.lit [.slice Yr v_ Yj] 53 (0,0):Blk)) (show IN.length+1=(IN++[(cF (db S j ni xs) N_).e]).length by simp)) ?_
     refine Sq (j_+1,(dp (db S j ni xs) N_),IN++[(cF (db S j ni xs) N_).e],Yr,Yj,Sk,T7,p_,c_,s_) [2,3,4,5,6,7,8] [0,1] ?_
     try dsimp only
     exact⟨⟨by omega,Tm,P4,Xg⟩,by omega⟩
   ·refine aa 8 [] λ _=>RN.eb (fB (db S j ni xs) N_) 58 (λ Tg=>?_) λ Tg=>?_
    ·refine aa 2 [] λ _=>RN.draw [0,1,2,3,4] []<|fD (σ:=Unit) (λ _=>⟨[(10,vP (n1+3) 0),(11,vP (n1+4) 0),(12,vP (n1+5) 0)],[((n9+0),.lit [vI ((cF (db S j ni xs) N_).e.t),vI ((cF (db S j ni xs) N_).e.i),vI ((cF (db S j ni xs) N_).e.k),vI ((cF (db S j ni xs) N_).e.v)] 106 (0,0)),((n2+0),.lit [vI (aV (M.base+(M.lg.length:Int)))] 3 (0,0)),((n1+5),.lit [vI 0] 34 (0,0)),((n1+4),.lit [vI p_,vI c_,vI s_] 57 (0,0)),((n1+3),.lit [.slice B_ IN.length b_] 53 (0,0)),((n1+2),.lit [.slice A (eO j.1) c,vI (bC j.1 0),vI (bC j.1 1),vI (bC j.1 2)] 50 (0,0)),((n1+1),.lit (Setup.l S) 31 (0,0)),((n1+0),.lit [vP mb 0] 41 (0,0))],[T7,E_],True,0⟩) ?_ ?_
     ·rintro⟨⟩
      refine aa 1 [] λ _=>Gb ?_
      refine Gc (enters_of Tryz.func38 (by kernel_rfl) rfl) [] [] (sR _ _ _ _ _ _) ?_
      rintro _ _ _
      refine LV.ret [.own 4,.own 3,.own 3,.own 3,.own 2] [] [0,1] (v:=.tuple #[.slice B_ IN.length b_,.agg #[vI p_,vI c_,vI s_],vI 0]) (H':=(ap [] [T7,E_])) ?_
      rcases Sz.2 with ⟨PY,_⟩|⟨_,VX,Q4,SX⟩
      ·rw[Tg] at PY;cases PY
      rw[if_neg Qe,List.append_nil] at Q4
      subst Q4
      exact⟨((dp (db S j ni xs) N_),B_,b_,E_,T7,p_,c_,s_),rfl,VX,SX,P4.weak (by omega),P1,rfl⟩
     ·intro Su
      refine d5 0 1 ?_ ?_
      ·refine RDO.ev [] [.own 4] λ _=>d5 1 2 ?_ ?_
       ·refine RDO.ev [] [.own 3,.own 3,.own 3] λ _=>RD.one 2 (RDO.ev [] [.own 4] λ _=>?_)
        refine RD.one 3 (RDO.ev [] [.own 3,.own 3,.own 3] λ _=>?_)
        refine RD.one 4 (RDO.ev [] [.own 2] λ _=>?_)
        exact Su () [0,1,2,3,4,5,6,7] [0,1]
       ·refine RDO.ev [] [.own 4] λ _=>RD.one 1 (RDO.ev [] [.own 3,.own 3,.own 3] λ _=>?_)
        refine RD.one 3 (RDO.ev [] [.own 3,.own 3,.own 3] λ _=>?_)
        refine RD.one 4 (RDO.ev [] [.own 2] λ _=>?_)
        exact Su () [0,1,2,3,4,5,6,7] [0,1]
      ·refine RDO.ev [] [.own 3,.own 3,.own 3] λ _=>RD.one 0 (RDO.ev [] [.own 4] λ _=>?_)
       refine RD.one 2 (RDO.ev [] [.own 4] λ _=>?_)
       refine RD.one 3 (RDO.ev [] [.own 3,.own 3,.own 3] λ _=>?_)
       refine RD.one 4 (RDO.ev [] [.own 2] λ _=>?_)
       exact Su () [0,1,2,3,4,5,6,7] [0,1]
    ·refine aq 8 [.nw] [bF ((j_:Int)+1)] λ _=>bZ 39 (congrArg (λ v_=>(vI v_:Value)) (show (j_:Int)+1=((j_+1:Nat):Int) by omega)) ?_
     rcases Sz.2 with ⟨_,Tm⟩|⟨PY,_⟩
     rotate_left
     ·exact absurd PY Tg
     rw[if_neg Qe,List.append_nil] at Tm
     refine Sq (j_+1,(dp (db S j ni xs) N_),IN,B_,b_,E_,T7,p_,c_,s_) [1,2,3,4,5,6,7] [1,0] ?_
     try dsimp only
     exact⟨⟨by omega,Tm,P4,P1⟩,by omega⟩
 ·(exfalso;have h_:=EnI.lt (g:=(db S j ni xs)) hV Qc;omega)
end Go.Proofs.YthoijjeddhfcnaaGreatDoor
