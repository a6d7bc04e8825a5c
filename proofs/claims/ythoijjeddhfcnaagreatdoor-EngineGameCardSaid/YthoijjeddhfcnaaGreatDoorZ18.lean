import Derived.Test.YthoijjeddhfcnaaGreatDoorZ17
set_option maxHeartbeats 4000000
set_option maxRecDepth 100000
set_option linter.unusedSimpArgs false
set_option linter.unusedVariables false
namespace Go.Proofs.YthoijjeddhfcnaaGreatDoor
open Go.RowKit
def rX(v w p:V2):Int:=aV (aV (aV (w.x-v.x)*aV (p.y-v.y))-aV (aV (w.y-v.y)*aV (p.x-v.x)))
def tD(n:Nat):List (Int × Int):=(List.range n).map λ i:Nat=>((i:Int),((i:Int)+1) % (n:Int))
theorem pO(n:Nat):(tD n).length=n:=by simp[tD]
theorem vv{n k:Nat}(h:k<n):(tD n)[k]?=some ((k:Int),((k:Int)+1) % (n:Int)):=by simp[tD,h]
theorem vw{n k:Nat}{x:Int × Int}(h:(tD n)[k]?=some x):k<n /\ x=((k:Int),((k:Int)+1) % (n:Int)):=by
 have hk:k<n:=by rw[<- pO n];exact(List.getElem?_eq_some_iff.1 h).1
 rw[vv hk] at h
 exact⟨hk,(Option.some.inj h).symm⟩
abbrev Kf(x:Int × Int):Array Value:=#[vI x.1,vI x.2]
def vz(n k:Nat):Int:=((k:Int)+1) % (n:Int)
abbrev OT(l:List V2)(k:Nat):V2:=l.getD k ⟨0,0⟩
def vA(f:Nat -> V2)(n i:Nat):Prop:=¬ rX (f i) (f (vz n i).toNat) ⟨0,0⟩ <= 0 /\ ∀k,k<n -> ¬ (k:Int)=(i:Int) -> ¬ (k:Int)=vz n i -> ¬ rX (f i) (f (vz n i).toNat) (f k) <= 0
instance (f:Nat -> V2) (n i:Nat):Decidable (vA f n i):=inferInstanceAs (Decidable (_ /\ _))
def ox(f:Nat -> V2)(n:Nat):Prop:=∀i,i<n -> vA f n i
instance (f:Nat -> V2) (n:Nat):Decidable (ox f n):=inferInstanceAs (Decidable (∀i,i<n -> _))
theorem Iq{n k:Nat}(h:k<n):0 <= vz n k /\ vz n k<n:=⟨Int.emod_nonneg _ (by omega),Int.emod_lt_of_pos _ (by omega)⟩
theorem vB{f g:Nat -> V2}{n:Nat}(h:∀k,k<n -> f k=g k)(hf:ox f n):ox g n:=λ i hi=>by
 have hb:=Iq hi
 have h1:=hf i hi
 unfold vA at h1 ⊢
 rw[h i hi,h (vz n i).toNat (by omega)] at h1
 refine⟨h1.1,λ k hk a b=>?_⟩
 have:=h1.2 k hk a b
 rwa [h k hk] at this
theorem rY(v w p:V2)(qw qv:Nat)(F:HL)(hqw:(qw,.lit [vI w.x,vI w.y] 29 (0,0))∈F)(hqv:(qv,.lit [vI v.x,vI v.y] 29 (0,0))∈F):Sp Tryz.prog 166 #[.agg #[vI p.x,vI p.y],vP qw 0,vP qv 0] [] F (λ u H'=>u=vI (rX v w p) /\ H'=[]):=by
 refine Sp.run Tryz.func166 rfl (mc hqw (mc hqv mn)) (A:=[]) (Ts:=[]) rfl λ w0=>?_
 refine aa 34 [.ro 0,.ro 1,.own 0,.ro 1,.ro 0,.ro 1,.own 0,.ro 1] λ n1=>?_
 exact RN.ret [] [] [] ⟨rfl,rfl⟩
theorem EP(v w:V2)(F:HL):Sp Tryz.prog 116 #[.agg #[vI v.x,vI v.y],.agg #[vI w.x,vI w.y]] [] F (λ u H'=>∃n:Nat,H'=ap [((n+1),.lit [vI w.x,vI w.y] 29 (0,0)),((n+0),.lit [vI v.x,vI v.y] 29 (0,0))] [] /\ u=.func (.func 166) #[] #[vP (n+1) 0,vP (n+0) 0]):=by
 refine Sp.run Tryz.func116 rfl mn (A:=[]) (Ts:=[]) rfl λ w0=>?_
 refine aa 13 [] λ n1=>RN.ret [] [0,1] [] (v:=.func (.func 166) #[] #[vP (n1+1) 0,vP (n1+0) 0]) (H':=(ap [((n1+1),.lit [vI w.x,vI w.y] 29 (0,0)),((n1+0),.lit [vI v.x,vI v.y] 29 (0,0))] [])) ?_
 exact⟨_,rfl,rfl⟩
theorem EQ(v w:V2)(F:HL):Sp Tryz.prog 116 #[.agg #[vI v.x,vI v.y],.agg #[vI w.x,vI w.y]] (ap [] []) F (λ u H'=>∃n:Nat,H'=ap [((n+1),.lit [vI w.x,vI w.y] 29 (0,0)),((n+0),.lit [vI v.x,vI v.y] 29 (0,0))] [] /\ u=.func (.func 166) #[] #[vP (n+1) 0,vP (n+0) 0]):=EP v w F
theorem B6(n:Nat)(F:HL):Sp Tryz.prog 115 #[vI (n:Int)] [] F (λ u H'=>∃q:Nat,H'=ap [(q,.lit [vI (n:Int)] 3 (0,0))] [] /\ u=.func (.func 165) #[] #[vP q 0]):=by
 refine Sp.run Tryz.func115 rfl mn (A:=[]) (Ts:=[]) rfl λ w0=>?_
 refine aa 12 [] λ n1=>RN.ret [] [0] [] (v:=.func (.func 165) #[] #[vP (n1+0) 0]) (H':=(ap [((n1+0),.lit [vI (n:Int)] 3 (0,0))] [])) ?_
 exact⟨_,rfl,rfl⟩
theorem B7(n:Nat)(F:HL):Sp Tryz.prog 115 #[vI (n:Int)] (ap [] []) F (λ u H'=>∃q:Nat,H'=ap [(q,.lit [vI (n:Int)] 3 (0,0))] [] /\ u=.func (.func 165) #[] #[vP q 0]):=B6 n F
theorem yc(n q lp:Nat)(X F:HL)(J:Nat -> HL -> Prop)(Jx:HL -> Prop)(T0:HL)(hn:n <= 1000000)(hq:(q,.lit [vI (n:Int)] 3 (0,0))∈F)(hY:∀i x H Y,(tD n)[i]?=some x -> J i H -> YL Tryz.prog lp (Kf x) H (Y++(X++F)) (λ b H'=>(b=true /\ J (i+1) H') \/ (b=false /\ Jx H')))(RM:J 0 T0):Sp Tryz.prog 165 #[.func (.yield lp) #[] #[],vP q 0] (ap [] [T0]) (X++F) (λ _ H'=>J (tD n).length H' \/ Jx H'):=by
 refine Sp.run Tryz.func165 rfl (mc (List.mem_append_right X hq) mn) (A:=[]) (Ts:=[T0]) rfl λ w0=>?_
 refine aa 7 [.ro 0] λ _=>RN.loop (σ:=Nat × HL) (λ ⟨k,T_⟩=>⟨[(0,.func (.yield lp) #[] #[]),(1,vP q 0),(4,vI (n:Int)),(5,vI (k:Int))],[],[T_],k <= n /\ J k T_,n-k⟩) (0,T0) [] [0] (⟨Nat.zero_le _,RM⟩) ?_
 rintro⟨k,T_⟩ ⟨Xy,Qb⟩ QF
 refine aa 6 [] λ _=>RN.em ((k:Int)<(n:Int)) 6 (λ h3=>?_) λ h3=>?_
 ·refine aq 19 [.nw,.ro 0,.nw] [0 <= (k:Int)+1 /\ (0:Int)<(n:Int) /\ (k:Int)+1 <= 9223372036854775807,bF ((k:Int)+1)] λ _=>RN.yield 0 (hY k _ _ _ (vv (by omega)) Qb) ?_
  rintro b_ T4 (⟨rfl,hJ5⟩|⟨rfl,hJ5⟩)
  ·refine aq 11 [.gen,.nw] [bF ((k:Int)+1)] λ _=>?_
   refine QF (k+1,T4) [] [0] ?_
   try dsimp only
   exact⟨⟨by omega,hJ5⟩,by omega⟩
  ·refine aa 4 [] λ _=>RN.ret [] [] [0] (v:=.tuple #[]) (H':=(ap [] [T4])) ?_
   rw[dS]
   exact .inr hJ5
 ·refine aa 5 [] λ _=>RN.ret [] [] [0] (v:=.tuple #[]) (H':=(ap [] [T_])) ?_
  rw[dS]
  obtain rfl:k=n:=by omega
  exact .inl (by rw[pO];exact Qb)
theorem ES(n q:Nat)(F:HL)(hn:n <= 1000000)(hq:(q,.lit [vI (n:Int)] 3 (0,0))∈F):It Tryz.prog 165 #[vP q 0] F Kf (tD n):=by
 intro X l J Jx H0 hY h0
 have key:=yc n q l X F J Jx H0 hn hq hY h0
 rw[dS] at key
 exact key
theorem ET(full:List V2)(b o N n cap:Nat)(fz:Nat × Nat)(F:HL)(hb:(b,.rows 2 N (jh full) 29 fz)∈F)(ho:o+n <= N)(YF:n <= 1000000):Sp Tryz.prog 81 #[vS b (o*2) n cap] [] F (λ u H'=>u=.bool (decide (ox (λ k_=>full.getD (o+k_) ⟨0,0⟩) n)) /\ H'=[]):=by
 refine Sp.runM Tryz.func81 rfl (mc hb mn) (A:=[]) (Ts:=[]) rfl λ w0=>?_
 refine aa 9 [] λ n1=>aa 2 [.own 1] λ _=>RN.ct (Hp:=[]) (Tp:=[]) [] [] (B7 n _) ?_
 rintro _ q2 rfl
 refine aa 3 [] λ _=>RN.range (σ:=Nat) (τ:=Nat) (encs:=λ (x_:Int × Int)=>#[vI x_.1,vI x_.2]) (xs:=(tD n)) (enters_of Tryz.func165 (by kernel_rfl) rfl) (λ m_=>([((n1+1),.lit [.bool false] 4 (0,0)),((n1+0),.lit [vS b (o*2) n cap] 69 (0,0))],[])) (λ i_ m_=>m_=i_ /\ ∀t,t<m_ -> vA (λ k_=>full.getD (o+k_) ⟨0,0⟩) n t) (λ c_ m_=>c_=Code.ret /\ ¬ ox (λ k_=>full.getD (o+k_) ⟨0,0⟩) n) (λ m_=>⟨[(1,vP (n1+0) 0),(2,vP (n1+1) 0),(3,vI (m_:Int)),(4,vI (((m_:Int)+1) % (n:Int)))],[((n1+1),.lit [.bool false] 4 (0,0)),((n1+0),.lit [vS b (o*2) n cap] 69 (0,0))],[],True,0⟩) (λ i_ x_ m_=>m_=i_ /\ ∀t,t<m_ -> vA (λ k_=>full.getD (o+k_) ⟨0,0⟩) n t) 0 (⟨rfl,λ t ht=>absurd ht (Nat.not_lt_zero _)⟩) [1,2] [] (ES n q2 _ YF (aC 0)) ?_ ?_ ?_ ?_
 ·rintro l_ i_ x_ m_ Y3 w4 hx5 Qc So
  obtain⟨rfl,aT⟩:=Qc
  obtain⟨hm_,rfl⟩:=vw hx5
  refine aa 8 [] λ _=>?_
  refine So m_ [0,1] [] ?_
  try dsimp only
  exact⟨rfl,aT⟩
 ·rintro l_ i_ x_ m_ Y7 w8 ZA Qc
  obtain⟨rfl,aT⟩:=Qc
  obtain⟨hm_,rfl⟩:=vw ZA
  have YJ:=Int.emod_nonneg ((m_:Int)+1) (show (n:Int)≠0 by omega)
  have YI:=Int.emod_lt_of_pos ((m_:Int)+1) (show (0:Int)<n by omega)
  refine aa 2 [] λ _=>RN.draw [] []<|aL [] [0,1,4,5,2,6,3,7] [.own 1,.own 1,.ix m_,.ix (((((m_:Int)+1) % (n:Int))).toNat),.rorow 1 (o+m_) 0,.rorow 1 (o+m_) 1,.rorow 1 (o+(((((m_:Int)+1) % (n:Int))).toNat)) 0,.rorow 1 (o+(((((m_:Int)+1) % (n:Int))).toNat)) 1] [((o*2+(((((m_:Int)+1) % (n:Int))).toNat)*2)+1)=(o+(((((m_:Int)+1) % (n:Int))).toNat))*2+1 /\ (o+(((((m_:Int)+1) % (n:Int))).toNat))<N,(o*2+(((((m_:Int)+1) % (n:Int))).toNat)*2)=(o+(((((m_:Int)+1) % (n:Int))).toNat))*2+0 /\ (o+(((((m_:Int)+1) % (n:Int))).toNat))<N,((o*2+m_*2)+1)=(o+m_)*2+1 /\ (o+m_)<N,(o*2+m_*2)=(o+m_)*2+0 /\ (o+m_)<N,(((m_:Int)+1) % (n:Int))=((((((m_:Int)+1) % (n:Int))).toNat:Nat):Int) /\ ((((m_:Int)+1) % (n:Int))).toNat<n,(m_:Int)=((m_:Nat):Int) /\ m_<n]<|RD.one 8 (RDO.ct [] (Hp:=[]) (Tp:=[]) [] [] (EQ (full.getD (o+m_) ⟨0,0⟩) (full.getD (o+(((((m_:Int)+1) % (n:Int))).toNat)) ⟨0,0⟩) _) ?_)
  rintro _ m10 rfl
  refine af [] [9] []<|RD.fin<|aa 6 [] λ _=>al (rY (full.getD (o+m_) ⟨0,0⟩) (full.getD (o+(((((m_:Int)+1) % (n:Int))).toNat)) ⟨0,0⟩) (⟨0,0⟩:V2) (m10+1) (m10+0) _ (aC 0) (aC 1))<|aa 3 [] λ _=>RN.em (rX (full.getD (o+m_) ⟨0,0⟩) (full.getD (o+(((((m_:Int)+1) % (n:Int))).toNat)) ⟨0,0⟩) (⟨0,0⟩:V2) <= 0) 25 (λ P0=>?_) λ P0=>?_
  ·refine aa 6 [.own 2] λ _=>RN.rr m_ [2,3] [] ?_
   try dsimp only
   exact⟨rfl,λ Sh=>(Sh m_ hm_).1 P0⟩
  ·refine aa 11 [.own 3] λ _=>RN.loop (σ:=Nat) (λ k=>⟨[(2,vP (n1+1) 0),(3,vI (m_:Int)),(4,vI (((m_:Int)+1) % (n:Int))),(5,.func (.func 166) #[] #[vP (m10+1) 0,vP (m10+0) 0]),(26,vS b (o*2) n cap),(27,vI (n:Int)),(28,vI (k:Int))],[((m10+1),.lit [vI ((full.getD (o+(((((m_:Int)+1) % (n:Int))).toNat)) ⟨0,0⟩).x),vI ((full.getD (o+(((((m_:Int)+1) % (n:Int))).toNat)) ⟨0,0⟩).y)] 29 (0,0)),((m10+0),.lit [vI ((full.getD (o+m_) ⟨0,0⟩).x),vI ((full.getD (o+m_) ⟨0,0⟩).y)] 29 (0,0)),((n1+1),.lit [.bool false] 4 (0,0)),((n1+0),.lit [vS b (o*2) n cap] 69 (0,0))],[],k <= n /\ ∀t,t<k -> ¬ (t:Int)=(m_:Int) -> ¬ (t:Int)=vz n m_ -> ¬ rX (full.getD (o+m_) ⟨0,0⟩) (full.getD (o+(vz n m_).toNat) ⟨0,0⟩) (full.getD (o+t) ⟨0,0⟩) <= 0,n-k⟩) 0 [0,1,2,3] [] (⟨Nat.zero_le _,λ t ht=>absurd ht (Nat.not_lt_zero _)⟩) ?_
   rintro k ⟨Wy,Qi⟩ Sr
   refine aa 6 [] λ _=>RN.em ((k:Int)<(n:Int)) 29 (λ QD=>?_) λ QD=>?_
   ·refine aq 21 [.ix k,.rorow 1 (o+k) 0,.rorow 1 (o+k) 1,.own 0,.own 0] [((o*2+k*2)+1)=(o+k)*2+1 /\ (o+k)<N,(o*2+k*2)=(o+k)*2+0 /\ (o+k)<N,(k:Int)=((k:Nat):Int) /\ k<n] λ Yv=>RN.en ((k:Int)=(m_:Int)) 36 (λ PZ=>?_) λ PZ=>?_
    ·refine aq 20 [.nw] [bF ((k:Int)+1)] λ _=>?_
     refine Sr (k+1) [1,2,3,4] [] ?_
     try dsimp only
     refine⟨⟨by omega,λ t ht Th Tz=>?_⟩,by omega⟩
     rcases Nat.lt_or_ge t k with h_|h_
     ·exact Qi t h_ Th Tz
     ·obtain rfl:t=k:=by omega
      exact absurd PZ Th
    ·refine aa 5 [] λ _=>RN.en ((k:Int)=(((m_:Int)+1) % (n:Int))) 41 (λ Wl=>?_) λ Wl=>?_
     ·refine aq 15 [.nw] [bF ((k:Int)+1)] λ _=>?_
      refine Sr (k+1) [1,2,3,4] [] ?_
      try dsimp only
      refine⟨⟨by omega,λ t ht Th Tz=>?_⟩,by omega⟩
      rcases Nat.lt_or_ge t k with h_|h_
      ·exact Qi t h_ Th Tz
      ·obtain rfl:t=k:=by omega
       exact absurd Wl Tz
     ·refine aa 2 [.own 0,.own 0] λ _=>al (rY (full.getD (o+m_) ⟨0,0⟩) (full.getD (o+(((((m_:Int)+1) % (n:Int))).toNat)) ⟨0,0⟩) (full.getD (o+k) ⟨0,0⟩) (m10+1) (m10+0) _ (aC 1) (aC 2))<|aa 4 [] λ _=>RN.em (rX (full.getD (o+m_) ⟨0,0⟩) (full.getD (o+(((((m_:Int)+1) % (n:Int))).toNat)) ⟨0,0⟩) (full.getD (o+k) ⟨0,0⟩) <= 0) 46 (λ h18=>?_) λ h18=>?_
      ·refine aa 6 [.own 3] λ _=>RN.rr m_ [3,4] [] ?_
       try dsimp only
       refine⟨rfl,λ Sh=>?_⟩
       exact(Sh m_ hm_).2 k (by omega) PZ Wl h18
      ·refine aq 8 [.nw] [bF ((k:Int)+1)] λ _=>?_
       refine Sr (k+1) [1,2,3,4] [] ?_
       try dsimp only
       refine⟨⟨by omega,λ t ht Th Tz=>?_⟩,by omega⟩
       rcases Nat.lt_or_ge t k with h_|h_
       ·exact Qi t h_ Th Tz
       ·obtain rfl:t=k:=by omega
        exact h18
   ·refine aa 6 [] λ _=>RN.rn (m_+1) [2,3] [] ?_
    try dsimp only
    refine⟨rfl,λ t ht=>?_⟩
    rcases Nat.lt_or_ge t m_ with h_|h_
    ·exact aT t h_
    ·obtain rfl:t=m_:=by omega
     exact⟨P0,λ s_ P1=>Qi s_ (by omega)⟩
 ·rintro d19 m_  Qc
  obtain⟨rfl,aT⟩:=Qc
  refine aa 7 [.own 1] λ _=>RN.retM [d19] [0] [.own 0] [] [] (v:=.bool true) (H':=[]) ?_
  exact⟨by rw[decide_eq_true (show ox (λ k_=>full.getD (o+k_) ⟨0,0⟩) n from λ t ht=>aT t (by rw[pO];exact ht))],rfl⟩
 ·rintro d20 c_ m_ ⟨rfl,Qp⟩
  refine RN.retM [d20] [0] [.own 0] [] [] (v:=.bool false) (H':=[]) ?_
  exact⟨by rw[decide_eq_false Qp],rfl⟩
def qX(n:Int):Prop:=-32768 <= n /\ n <= 32768
instance (n:Int):Decidable (qX n):=inferInstanceAs (Decidable (_ /\ _))
def mf(r:Int):Prop:=1 <= r /\ r <= 32768
instance (r:Int):Decidable (mf r):=inferInstanceAs (Decidable (_ /\ _))
def gH(r:Int)(f:Nat -> V2)(n:Nat):Prop:=(r=0 /\ 3 <= n /\ n <= 6) /\ (∀k,k<n -> qX (f k).x /\ qX (f k).y) /\ ox f n
instance (r:Int) (f:Nat -> V2) (n:Nat):Decidable (gH r f n):=inferInstanceAs (Decidable (_ /\ _ /\ _))
theorem oy{r:Int}{f g:Nat -> V2}{n:Nat}(h:∀k,k<n -> f k=g k)(hf:gH r f n):gH r g n :=
 ⟨hf.1,λ k hk=>by rw[<- h k hk];exact hf.2.1 k hk,vB h hf.2.2⟩
def i7(s:Shp):Prop:=if s.poly.length=0 then mf s.r else gH s.r (OT s.poly) s.poly.length
instance (s:Shp):Decidable (i7 s):=inferInstanceAs (Decidable (if s.poly.length=0 then mf s.r else gH s.r (OT s.poly) s.poly.length))
theorem nE{r:Int}{A:Option Addr}{cap:Nat}:i7 ⟨r,[],A,cap⟩↔mf r:=by
 show (if (0:Nat)=0 then mf r else _)↔_
 rw[if_pos rfl]
def B8(s:Shp):Int:=if i7 s then 0 else 10
theorem vC(n:Int)  (F:HL):Sp Tryz.prog 80 #[vI n] [] F (λ u H'=>u=.bool (decide (qX n)) /\ H'=[]):=by
 refine Sp.run Tryz.func80 rfl mn (A:=[]) (Ts:=[]) rfl λ w0=>?_
 refine aa 10 [] λ _=>RN.em ((-32768) <= n) 5 (λ h1=>?_) λ h1=>?_
 ·refine aa 6 [] λ _=>RN.ret [] [] [] (v:=.bool (decide (n <= 32768))) (H':=[]) ?_
  exact⟨by simp[qX, *],rfl⟩
 ·refine aa 6 [] λ _=>RN.ret [] [] [] (v:=.bool false) (H':=[]) ?_
  exact⟨by simp[qX, *],rfl⟩
theorem yd(r:Int)(A:Option Addr)(cap:Nat)(F:HL):Sp Tryz.prog 51 #[.agg #[vI r,.slice A 0 cap]] [] F (λ u H'=>u=vI (B8 ⟨r,[],A,cap⟩) /\ H'=[]):=by
 refine Sp.run Tryz.func51 rfl mn (A:=[]) (Ts:=[]) rfl λ w0=>?_
 refine aa 10 [.own 0,.own 0] λ n1=>al (nu r A 0 cap _)<|aa 10 [.own 0] λ _=>RN.em (r<1) 10 (λ h2=>?_) λ h2=>?_
 ·refine aa 12 [] λ _=>RN.ret [] [] [] (v:=vI 10) (H':=[]) ?_
  exact⟨by rw[B8,if_neg (λ h_=>by have L_:=nE.1 h_;unfold mf at L_;omega)],rfl⟩
 ·refine aa 6 [.own 0] λ _=>RN.em (r>32768) 14 (λ h3=>?_) λ h3=>?_
  ·refine aa 6 [] λ _=>RN.ret [] [] [] (v:=vI 10) (H':=[]) ?_
   exact⟨by rw[B8,if_neg (λ h_=>by have L_:=nE.1 h_;unfold mf at L_;omega)],rfl⟩
  ·refine aa 8 [] λ _=>RN.ret [] [] [] (v:=vI 0) (H':=[]) ?_
   exact⟨by rw[B8,if_pos (nE.2 ⟨by omega,by omega⟩)],rfl⟩
theorem EU(r:Int)(full:List V2)(b o N n cap:Nat)(fz:Nat × Nat)(F:HL)(hb:(b,.rows 2 N (jh full) 29 fz)∈F)(ho:o+n <= N)(h1:1 <= n)(YF:n <= 1000000):Sp Tryz.prog 51 #[.agg #[vI r,vS b (o*2) n cap]] [] F (λ u H'=>u=vI (if gH r (λ k_=>full.getD (o+k_) ⟨0,0⟩) n then 0 else 10) /\ H'=[]):=by
 refine Sp.run Tryz.func51 rfl (mc hb mn) (A:=[]) (Ts:=[]) rfl λ w0=>?_
 refine aa 10 [.own 0,.own 0] λ n1=>al (nu r (some ⟨b,o*2,none⟩) n cap _)<|aa 2 [] λ _=>dR 6 (decide_eq_false (show ¬ ((n:Int)=0) by omega))<|aa 10 [.own 0] λ _=>RN.en (r=0) 18 (λ h2=>?_) λ h2=>?_
 ·refine aa 6 [.own 0] λ _=>RN.em ((n:Int)<3) 24 (λ h3=>?_) λ h3=>?_
  ·refine aa 13 [] λ _=>RN.ret [] [] [] (v:=vI 10) (H':=[]) ?_
   exact⟨by rw[if_neg (show ¬ gH r (λ k_=>full.getD (o+k_) ⟨0,0⟩) n from λ h_=>by have:=h_.1;omega)],rfl⟩
  ·refine aa 7 [.own 0] λ _=>RN.em ((n:Int)>6) 29 (λ h4=>?_) λ h4=>?_
   ·refine aa 6 [] λ _=>RN.ret [] [] [] (v:=vI 10) (H':=[]) ?_
    exact⟨by rw[if_neg (show ¬ gH r (λ k_=>full.getD (o+k_) ⟨0,0⟩) n from λ h_=>by have:=h_.1;omega)],rfl⟩
   ·refine aa 13 [.own 0] λ _=>RN.loop (σ:=Nat) (λ k=>⟨[(1,vP (n1+0) 0),(31,vS b (o*2) n cap),(32,vI (n:Int)),(33,vI (k:Int))],[((n1+0),.lit [vI r,vS b (o*2) n cap] 71 (0,0))],[],k <= n /\ ∀t,t<k -> qX (full.getD (o+t) (⟨0,0⟩:V2)).x /\ qX (full.getD (o+t) (⟨0,0⟩:V2)).y,n-k⟩) 0 [0] [] (⟨Nat.zero_le _,λ t ht=>absurd ht (Nat.not_lt_zero _)⟩) ?_
    rintro k ⟨Wy,Qi⟩ So
    refine aa 6 [] λ _=>RN.em ((k:Int)<(n:Int)) 34 (λ h7=>?_) λ h7=>?_
    ·refine aq 17 [.ix k,.rorow 0 (o+k) 0,.rorow 0 (o+k) 1,.own 0,.own 0,.own 0] [((o*2+k*2)+1)=(o+k)*2+1 /\ (o+k)<N,(o*2+k*2)=(o+k)*2+0 /\ (o+k)<N,(k:Int)=((k:Nat):Int) /\ k<n] λ n8=>al (vC ((full.getD (o+k) ⟨0,0⟩).x)  _)<|aa 2 [] λ _=>RN.en (qX ((full.getD (o+k) ⟨0,0⟩).x)) 41 (λ h9=>?_) λ h9=>?_
     ·refine aa 2 [.own 0] λ _=>al (vC ((full.getD (o+k) ⟨0,0⟩).y)  _)<|aa 4 [] λ _=>RN.en (qX ((full.getD (o+k) ⟨0,0⟩).y)) 46 (λ Qe=>?_) λ Qe=>?_
      ·refine aq 8 [.nw] [bF ((k:Int)+1)] λ _=>?_
       refine So (k+1) [1] [] ?_
       try dsimp only
       refine⟨⟨by omega,λ t ht=>?_⟩,by omega⟩
       rcases Nat.lt_or_ge t k with h_|h_
       ·exact Qi t h_
       ·obtain rfl:t=k:=by omega
        exact⟨h9,Qe⟩
      ·refine aa 6 [] λ _=>RN.ret [] [] [] (v:=vI 10) (H':=[]) ?_
       exact⟨by rw[if_neg (show ¬ gH r (λ k_=>full.getD (o+k_) ⟨0,0⟩) n from λ h_=>Qe (h_.2.1 k (by omega)).2)],rfl⟩
     ·refine aa 13 [] λ _=>RN.ret [] [] [] (v:=vI 10) (H':=[]) ?_
      exact⟨by rw[if_neg (show ¬ gH r (λ k_=>full.getD (o+k_) ⟨0,0⟩) n from λ h_=>h9 (h_.2.1 k (by omega)).1)],rfl⟩
    ·refine aa 11 [.own 0] λ _=>al (ET full b o N n cap fz _ (bK hb) ho YF)<|aa 3 [] λ _=>RN.en (ox (λ k_=>full.getD (o+k_) ⟨0,0⟩) n) 51 (λ P0=>?_) λ P0=>?_
     ·refine aa 8 [] λ _=>RN.ret [] [] [] (v:=vI 0) (H':=[]) ?_
      exact⟨by rw[if_pos (show gH r (λ k_=>full.getD (o+k_) ⟨0,0⟩) n from ⟨⟨by omega,by omega,by omega⟩,λ t ht=>Qi t (by omega),P0⟩)],rfl⟩
     ·refine aa 6 [] λ _=>RN.ret [] [] [] (v:=vI 10) (H':=[]) ?_
      exact⟨by rw[if_neg (show ¬ gH r (λ k_=>full.getD (o+k_) ⟨0,0⟩) n from λ h_=>P0 h_.2.2)],rfl⟩
 ·refine aa 19 [] λ _=>RN.ret [] [] [] (v:=vI 10) (H':=[]) ?_
  exact⟨by rw[if_neg (show ¬ gH r (λ k_=>full.getD (o+k_) ⟨0,0⟩) n from λ h_=>by have:=h_.1;omega)],rfl⟩
theorem Ir(s:Shp)(F:HL)(h:RowL lI 29 F s.A s.poly.length s.poly)(hn:s.poly.length <= 1000000):Sp Tryz.prog 51 #[Mw s] [] F (λ u H'=>u=vI (B8 s) /\ H'=[]):=by
 obtain⟨r,l,A,cap⟩:=s
 simp only at h hn
 rcases Nat.eq_zero_or_pos l.length with h0|h0
 ·obtain rfl:l=[]:=List.eq_nil_of_length_eq_zero h0
  exact yd r A cap F
 ·generalize hm:l.length=m at h h0 hn
  cases h with
  | zero=>omega
  | rows q o N full fz n xs hq ho TY hx =>
   have:=EU r full q o N m cap fz F hq ho h0 hn
   have e:B8 ⟨r,l,some ⟨q,o*2,none⟩,cap⟩=if gH r (λ k_=>full.getD (o+k_) ⟨0,0⟩) m then 0 else 10:=by
    have e1:i7 ⟨r,l,some ⟨q,o*2,none⟩,cap⟩↔gH r (λ k_=>full.getD (o+k_) ⟨0,0⟩) m:=by
     unfold i7
     simp only
     rw[if_neg (by omega),hm]
     exact⟨oy λ k hk=>(hx k hk).symm,oy λ k hk=>hx k hk⟩
    unfold B8
    by_cases hc:gH r (λ k_=>full.getD (o+k_) ⟨0,0⟩) m
    ·rw[if_pos hc,if_pos (e1.2 hc)]
    ·rw[if_neg hc,if_neg λ h=>hc (e1.1 h)]
   show Sp _ _ #[.agg #[vI r,.slice (some ⟨q,o*2,none⟩) l.length cap]] _ _ (λ u H'=>u=vI (B8 ⟨r,l,some ⟨q,o*2,none⟩,cap⟩) /\ H'=[])
   rw[e,hm]
   exact this
structure SetSh(F:HL)(S:Setup):Prop where
 nb:S.nb <= 1000000
 blk:(S.bb,.rows 9 S.bR (ge S.bods) 73 (0,0))∈F
 room:S.bo+S.nb <= S.bR
 pol:∀k,k<S.nb -> RowL lI 29 F (S.body k).sh.A (S.body k).sh.poly.length (S.body k).sh.poly /\ (S.body k).sh.poly.length <= 1000000
theorem ShIn.rowL{F:HL}{s:Shp}(h:ShIn F s):RowL lI 29 F s.A s.poly.length s.poly /\ s.poly.length <= 1000000:=by
 cases h with
 | circle r A cap=>exact⟨.zero _,Nat.zero_le _⟩
 | poly r l b cap h h3 h4 h5=>exact⟨RowL.whole (e:=lI) h h4,h5⟩
def tE(S:Setup)(rs:List Bx)(ds:List Dr):Prop:=jo S /\ ga S.box /\ lM S rs ds
instance (S:Setup) (rs:List Bx) (ds:List Dr):Decidable (tE S rs ds):=inferInstanceAs (Decidable (_ /\ _))
def kK(S:Setup)(rs:List Bx)(ds:List Dr):Int:=if ∀k,k<S.nb -> i7 (S.body k).sh then (if tE S rs ds then (if ∀k,k<S.nb -> fd (S.body k) S.box then 0 else 11) else 11) else 10
theorem Li{s:Shp}(h:B8 s=0):i7 s:=by
 unfold B8 at h
 split at h
 ·assumption
 ·omega
theorem Lj{s:Shp}(h:¬ B8 s=0):¬ i7 s:=λ hc=>h (by rw[B8,if_pos hc])
theorem Iu(S:Setup)(rs:List Bx)(ds:List Dr)(F:HL)(hS:SetSh F S)(hM:MapIn F S rs ds):Sp Tryz.prog 25 #[(Setup.v S)] [] F (λ u H'=>u=vI (kK S rs ds) /\ H'=[]):=by
 have hn:=hS.nb
 have hr:=hS.room
 refine Sp.run Tryz.func25 rfl (mc hS.blk mn) (A:=[]) (Ts:=[]) rfl λ w0=>?_
 refine aa 16 [.own 0] λ n1=>RN.loop (σ:=Nat) (λ k=>⟨[(1,vP (n1+0) 0),(8,vS S.bb (S.bo*9) S.nb S.bc),(9,vI (S.nb:Int)),(10,vI (k:Int))],[((n1+0),.lit (Setup.l S) 31 (0,0))],[],k <= S.nb /\ ∀t,t<k -> i7 (S.body t).sh,S.nb-k⟩) 0 [0] [] (⟨Nat.zero_le _,λ t ht=>absurd ht (Nat.not_lt_zero _)⟩) ?_
 rintro k ⟨Wy,Sd⟩ PK
 refine aa 6 [] λ _=>RN.em ((k:Int)<(S.nb:Int)) 11 (λ h4=>?_) λ h4=>?_
 ·refine aq 17 ([.ix k,.rorow 0 (S.bo+k) 0,.rorow 0 (S.bo+k) 1,.rorow 0 (S.bo+k) 2,.rorow 0 (S.bo+k) 3,.rorow 0 (S.bo+k) 4,.rorow 0 (S.bo+k) 5,.rorow 0 (S.bo+k) 6,.rorow 0 (S.bo+k) 7,.rorow 0 (S.bo+k) 8]++ow 0 11) [((S.bo*9+k*9)+8)=(S.bo+k)*9+8 /\ (S.bo+k)<S.bR,((S.bo*9+k*9)+7)=(S.bo+k)*9+7 /\ (S.bo+k)<S.bR,((S.bo*9+k*9)+6)=(S.bo+k)*9+6 /\ (S.bo+k)<S.bR,((S.bo*9+k*9)+5)=(S.bo+k)*9+5 /\ (S.bo+k)<S.bR,((S.bo*9+k*9)+4)=(S.bo+k)*9+4 /\ (S.bo+k)<S.bR,((S.bo*9+k*9)+3)=(S.bo+k)*9+3 /\ (S.bo+k)<S.bR,((S.bo*9+k*9)+2)=(S.bo+k)*9+2 /\ (S.bo+k)<S.bR,((S.bo*9+k*9)+1)=(S.bo+k)*9+1 /\ (S.bo+k)<S.bR,(S.bo*9+k*9)=(S.bo+k)*9+0 /\ (S.bo+k)<S.bR,(k:Int)=((k:Nat):Int) /\ k<S.nb] λ n5=>al (Ir ((S.bods.getD (S.bo+k) dB).sh) _ (hS.pol k (by omega)).1.up (hS.pol k (by omega)).2)<|aa 3 [] λ _=>RN.en (B8 ((S.bods.getD (S.bo+k) dB).sh)=0) 17 (λ h6=>?_) λ h6=>?_
  ·refine aq 8 [.nw] [bF ((k:Int)+1)] λ _=>?_
   refine PK (k+1) [1] [] ?_
   try dsimp only
   refine⟨⟨by omega,λ t ht=>?_⟩,by omega⟩
   rcases Nat.lt_or_ge t k with h_|h_
   ·exact Sd t h_
   ·obtain rfl:t=k:=by omega
    exact Li h6
  ·refine aa 6 [] λ _=>RN.ret [] [] [] (v:=vI 10) (H':=[]) ?_
   exact⟨by rw[kK,if_neg (show ¬ ∀k,k<S.nb -> i7 (S.body k).sh from λ h_=>Lj h6 (h_ k (by omega)))],rfl⟩
 ·refine aa 10 (ow 0 16) λ _=>al (EN S _)<|aa 2 [] λ _=>RN.en (jo S) 22 (λ h7=>?_) λ h7=>?_
  ·refine aa 2 [.own 0,.own 0,.own 0,.own 0] λ _=>al (pM S.box  _)<|aa 3 [] λ _=>RN.en (ga S.box) 28 (λ h8=>?_) λ h8=>?_
   ·refine aa 1 (ow 0 16) λ _=>al (EO S rs ds _ hM.up)<|aa 4 [] λ _=>RN.en (lM S rs ds) 32 (λ h9=>?_) λ h9=>?_
    ·refine aa 13 [.own 0] λ _=>RN.loop (σ:=Nat) (λ j=>⟨[(1,vP (n1+0) 0),(34,vS S.bb (S.bo*9) S.nb S.bc),(35,vI (S.nb:Int)),(36,vI (j:Int))],[((n1+0),.lit (Setup.l S) 31 (0,0))],[],j <= S.nb /\ ∀t,t<j -> fd (S.body t) S.box,S.nb-j⟩) 0 [0] [] (⟨Nat.zero_le _,λ t ht=>absurd ht (Nat.not_lt_zero _)⟩) ?_
     rintro j ⟨RK,hvb⟩ Ve
     refine aa 6 [] λ _=>RN.em ((j:Int)<(S.nb:Int)) 37 (λ PN=>?_) λ PN=>?_
     ·refine aq 18 ([.ix j,.rorow 0 (S.bo+j) 0,.rorow 0 (S.bo+j) 1,.rorow 0 (S.bo+j) 2,.rorow 0 (S.bo+j) 3,.rorow 0 (S.bo+j) 4,.rorow 0 (S.bo+j) 5,.rorow 0 (S.bo+j) 6,.rorow 0 (S.bo+j) 7,.rorow 0 (S.bo+j) 8]++ow 0 18++[.own 1,.own 1,.own 1,.own 1]) [((S.bo*9+j*9)+8)=(S.bo+j)*9+8 /\ (S.bo+j)<S.bR,((S.bo*9+j*9)+7)=(S.bo+j)*9+7 /\ (S.bo+j)<S.bR,((S.bo*9+j*9)+6)=(S.bo+j)*9+6 /\ (S.bo+j)<S.bR,((S.bo*9+j*9)+5)=(S.bo+j)*9+5 /\ (S.bo+j)<S.bR,((S.bo*9+j*9)+4)=(S.bo+j)*9+4 /\ (S.bo+j)<S.bR,((S.bo*9+j*9)+3)=(S.bo+j)*9+3 /\ (S.bo+j)<S.bR,((S.bo*9+j*9)+2)=(S.bo+j)*9+2 /\ (S.bo+j)<S.bR,((S.bo*9+j*9)+1)=(S.bo+j)*9+1 /\ (S.bo+j)<S.bR,(S.bo*9+j*9)=(S.bo+j)*9+0 /\ (S.bo+j)<S.bR,(j:Int)=((j:Nat):Int) /\ j<S.nb] λ WZ=>al (B5 (S.bods.getD (S.bo+j) dB) S.box _)<|aa 3 [] λ _=>RN.en (fd (S.bods.getD (S.bo+j) dB) S.box) 44 (λ QD=>?_) λ QD=>?_
      ·refine aq 8 [.nw] [bF ((j:Int)+1)] λ _=>?_
       refine Ve (j+1) [1] [] ?_
       try dsimp only
       refine⟨⟨by omega,λ t ht=>?_⟩,by omega⟩
       rcases Nat.lt_or_ge t j with h_|h_
       ·exact hvb t h_
       ·obtain rfl:t=j:=by omega
        exact QD
      ·refine aa 6 [] λ _=>RN.ret [] [] [] (v:=vI 11) (H':=[]) ?_
       exact⟨by rw[kK,if_pos (show ∀k,k<S.nb -> i7 (S.body k).sh from λ t ht=>Sd t (by omega)),if_pos (show tE S rs ds from ⟨h7,h8,h9⟩),if_neg (show ¬ ∀k,k<S.nb -> fd (S.body k) S.box from λ h_=>QD (h_ j (by omega)))],rfl⟩
     ·refine aa 11 [] λ _=>RN.ret [] [] [] (v:=vI 0) (H':=[]) ?_
      exact⟨by rw[kK,if_pos (show ∀k,k<S.nb -> i7 (S.body k).sh from λ t ht=>Sd t (by omega)),if_pos (show tE S rs ds from ⟨h7,h8,h9⟩),if_pos (show ∀k,k<S.nb -> fd (S.body k) S.box from λ t ht=>hvb t (by omega))],rfl⟩
    ·refine aa 6 [] λ _=>RN.ret [] [] [] (v:=vI 11) (H':=[]) ?_
     exact⟨by rw[kK,if_pos (show ∀k,k<S.nb -> i7 (S.body k).sh from λ t ht=>Sd t (by omega)),if_neg (show ¬ tE S rs ds from λ h_=>h9 h_.2.2)],rfl⟩
   ·refine aa 12 [] λ _=>RN.ret [] [] [] (v:=vI 11) (H':=[]) ?_
    exact⟨by rw[kK,if_pos (show ∀k,k<S.nb -> i7 (S.body k).sh from λ t ht=>Sd t (by omega)),if_neg (show ¬ tE S rs ds from λ h_=>h8 h_.2.1)],rfl⟩
  ·refine aa 18 [] λ _=>RN.ret [] [] [] (v:=vI 11) (H':=[]) ?_
   exact⟨by rw[kK,if_pos (show ∀k,k<S.nb -> i7 (S.body k).sh from λ t ht=>Sd t (by omega)),if_neg (show ¬ tE S rs ds from λ h_=>h7 h_.1)],rfl⟩
end Go.Proofs.YthoijjeddhfcnaaGreatDoor
