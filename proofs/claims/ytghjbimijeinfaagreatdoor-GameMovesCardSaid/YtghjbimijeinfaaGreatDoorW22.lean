import Derived.Test.YtghjbimijeinfaaGreatDoorW21
set_option maxHeartbeats 4000000
set_option maxRecDepth 100000
set_option linter.unusedSimpArgs false
set_option linter.unusedVariables false
namespace Go.Proofs.YtghjbimijeinfaaGreatDoor
open Go.RowKit
def sideQ (v w p:V2):Int:=w64 (w64 (w64 (w.x - v.x) * w64 (p.y - v.y)) - w64 (w64 (w.y - v.y) * w64 (p.x - v.x)))
def edgL (n:Nat):List (Int × Int):=(List.range n).map λ i:Nat=>((i:Int),((i:Int)+1) % (n:Int))
theorem edgL_len (n:Nat):(edgL n).length=n:=by simp [edgL]
theorem edgL_get {n k:Nat} (h:k < n):(edgL n)[k]?=some ((k:Int),((k:Int)+1) % (n:Int)):=by simp [edgL,h]
theorem edgL_inv {n k:Nat} {x:Int × Int} (h:(edgL n)[k]?=some x):k < n /\ x=((k:Int),((k:Int)+1) % (n:Int)):=by
 have hk:k < n:=by rw [<- edgL_len n];exact (List.getElem?_eq_some_iff.1 h).1
 rw [edgL_get hk] at h
 exact ⟨hk,(Option.some.inj h).symm⟩
abbrev encII (x:Int × Int):Array Value:=#[vI x.1,vI x.2]
def nxtI (n k:Nat):Int:=((k:Int)+1) % (n:Int)
abbrev vat (l:List V2) (k:Nat):V2:=l.getD k ⟨0,0⟩
def edgeF (f:Nat -> V2) (n i:Nat):Prop:=¬ sideQ (f i) (f (nxtI n i).toNat) ⟨0,0⟩ <= 0 /\ ∀ k,k < n -> ¬ (k:Int)=(i:Int) -> ¬ (k:Int)=nxtI n i -> ¬ sideQ (f i) (f (nxtI n i).toNat) (f k) <= 0
instance (f:Nat -> V2) (n i:Nat):Decidable (edgeF f n i):=inferInstanceAs (Decidable (_ /\ _))
def convF (f:Nat -> V2) (n:Nat):Prop:=∀ i,i < n -> edgeF f n i
instance (f:Nat -> V2) (n:Nat):Decidable (convF f n):=inferInstanceAs (Decidable (∀ i,i < n -> _))
theorem nxtI_bd {n k:Nat} (h:k < n):0 <= nxtI n k /\ nxtI n k < n:=⟨Int.emod_nonneg _ (by omega),Int.emod_lt_of_pos _ (by omega)⟩
theorem convF_congr {f g:Nat -> V2} {n:Nat} (h:∀ k,k < n -> f k=g k) (hf:convF f n):convF g n:=λ i hi=>by
 have hb:=nxtI_bd hi
 have h1:=hf i hi
 unfold edgeF at h1 ⊢
 rw [h i hi,h (nxtI n i).toNat (by omega)] at h1
 refine ⟨h1.1,λ k hk a b=>?_⟩
 have:=h1.2 k hk a b
 rwa [h k hk] at this
theorem side1_any (v w p:V2) (qw qv:Nat) (F:HL) (hqw:(qw,.lit [vI w.x,vI w.y] 29 (0,0)) ∈ F) (hqv:(qv,.lit [vI v.x,vI v.y] 29 (0,0)) ∈ F):Sp Tryz.prog 277 #[.agg #[vI p.x,vI p.y],vP qw 0,vP qv 0] [] F (λ u H'=>u=vI (sideQ v w p) /\ H'=[]):=by
 refine Sp.run Tryz.func277 rfl (mc hqw (mc hqv mn)) (A:=[]) (Ts:=[]) rfl λ w0=>?_
 refine RN.go 34 [.ro 0,.ro 1,.own 0,.ro 1,.ro 0,.ro 1,.own 0,.ro 1] λ n1=>?_
 exact RN.ret [] [] [] ⟨rfl,rfl⟩
theorem side_run (v w:V2) (F:HL):Sp Tryz.prog 247 #[.agg #[vI v.x,vI v.y],.agg #[vI w.x,vI w.y]] [] F (λ u H'=>∃ n:Nat,H'=ap [((n+1),.lit [vI w.x,vI w.y] 29 (0,0)),((n+0),.lit [vI v.x,vI v.y] 29 (0,0))] [] /\ u=.func (.func 277) #[] #[vP (n+1) 0,vP (n+0) 0]):=by
 refine Sp.run Tryz.func247 rfl mn (A:=[]) (Ts:=[]) rfl λ w0=>?_
 refine RN.go 13 [] λ n1=>RN.ret [] [0,1] [] (v:=.func (.func 277) #[] #[vP (n1+1) 0,vP (n1+0) 0]) (H':=(ap [((n1+1),.lit [vI w.x,vI w.y] 29 (0,0)),((n1+0),.lit [vI v.x,vI v.y] 29 (0,0))] [])) ?_
 exact ⟨_,rfl,rfl⟩
theorem side_any (v w:V2) (F:HL):Sp Tryz.prog 247 #[.agg #[vI v.x,vI v.y],.agg #[vI w.x,vI w.y]] (ap [] []) F (λ u H'=>∃ n:Nat,H'=ap [((n+1),.lit [vI w.x,vI w.y] 29 (0,0)),((n+0),.lit [vI v.x,vI v.y] 29 (0,0))] [] /\ u=.func (.func 277) #[] #[vP (n+1) 0,vP (n+0) 0]):=side_run v w F
theorem edges_run (n:Nat) (F:HL):Sp Tryz.prog 246 #[vI (n:Int)] [] F (λ u H'=>∃ q:Nat,H'=ap [(q,.lit [vI (n:Int)] 3 (0,0))] [] /\ u=.func (.func 276) #[] #[vP q 0]):=by
 refine Sp.run Tryz.func246 rfl mn (A:=[]) (Ts:=[]) rfl λ w0=>?_
 refine RN.go 12 [] λ n1=>RN.ret [] [0] [] (v:=.func (.func 276) #[] #[vP (n1+0) 0]) (H':=(ap [((n1+0),.lit [vI (n:Int)] 3 (0,0))] [])) ?_
 exact ⟨_,rfl,rfl⟩
theorem edges_any (n:Nat) (F:HL):Sp Tryz.prog 246 #[vI (n:Int)] (ap [] []) F (λ u H'=>∃ q:Nat,H'=ap [(q,.lit [vI (n:Int)] 3 (0,0))] [] /\ u=.func (.func 276) #[] #[vP q 0]):=edges_run n F
theorem edges1_run (n q lp:Nat) (X F:HL) (J:Nat -> HL -> Prop) (Jx:HL -> Prop) (T0:HL) (hn:n <= 1000000) (hq:(q,.lit [vI (n:Int)] 3 (0,0)) ∈ F) (hY:∀ i x H Y,(edgL n)[i]?=some x -> J i H -> YL Tryz.prog lp (encII x) H (Y++(X++F)) (λ b H'=>(b=true /\ J (i+1) H') \/ (b=false /\ Jx H'))) (hJ0:J 0 T0):Sp Tryz.prog 276 #[.func (.yield lp) #[] #[],vP q 0] (ap [] [T0]) (X++F) (λ _ H'=>J (edgL n).length H' \/ Jx H'):=by
 refine Sp.run Tryz.func276 rfl (mc (List.mem_append_right X hq) mn) (A:=[]) (Ts:=[T0]) rfl λ w0=>?_
 refine RN.go 7 [.ro 0] λ _=>RN.loop (σ:=Nat × HL) (λ ⟨k,T_⟩=>⟨[(0,.func (.yield lp) #[] #[]),(1,vP q 0),(4,vI (n:Int)),(5,vI (k:Int))],[],[T_],k <= n /\ J k T_,n - k⟩) (0,T0) [] [0] (⟨Nat.zero_le _,hJ0⟩) ?_
 rintro ⟨k,T_⟩ ⟨hk_,hJ_⟩ mt2
 refine RN.go 6 [] λ _=>RN.em ((k:Int) < (n:Int)) 6 (λ h3=>?_) λ h3=>?_
 ·refine RN.goP 19 [.nw,.ro 0,.nw] [0 <= (k:Int)+1 /\ (0:Int) < (n:Int) /\ (k:Int)+1 <= 9223372036854775807,I64 ((k:Int)+1)] λ _=>RN.yield 0 (hY k _ _ _ (edgL_get (by omega)) hJ_) ?_
  rintro b_ T4 (⟨rfl,hJ5⟩ | ⟨rfl,hJ5⟩)
  ·refine RN.goP 11 [.gen,.nw] [I64 ((k:Int)+1)] λ _=>?_
   refine mt2 (k+1,T4) [] [0] ?_
   try dsimp only
   exact ⟨⟨by omega,hJ5⟩,by omega⟩
  ·refine RN.go 4 [] λ _=>RN.ret [] [] [0] (v:=.tuple #[]) (H':=(ap [] [T4])) ?_
   rw [ap_one]
   exact .inr hJ5
 ·refine RN.go 5 [] λ _=>RN.ret [] [] [0] (v:=.tuple #[]) (H':=(ap [] [T_])) ?_
  rw [ap_one]
  obtain rfl:k=n:=by omega
  exact .inl (by rw [edgL_len];exact hJ_)
theorem edges_it (n q:Nat) (F:HL) (hn:n <= 1000000) (hq:(q,.lit [vI (n:Int)] 3 (0,0)) ∈ F):It Tryz.prog 276 #[vP q 0] F encII (edgL n):=by
 intro X l J Jx H0 hY h0
 have key:=edges1_run n q l X F J Jx H0 hn hq hY h0
 rw [ap_one] at key
 exact key
theorem conv_any (full:List V2) (b o N n cap:Nat) (fz:Nat × Nat) (F:HL) (hb:(b,.rows 2 N (vrow full) 29 fz) ∈ F) (ho:o+n <= N) (hnn:n <= 1000000):Sp Tryz.prog 192 #[vS b (o * 2) n cap] [] F (λ u H'=>u=.bool (decide (convF (λ k_=>full.getD (o+k_) ⟨0,0⟩) n)) /\ H'=[]):=by
 refine Sp.runM Tryz.func192 rfl (mc hb mn) (A:=[]) (Ts:=[]) rfl λ w0=>?_
 refine RN.go 9 [] λ n1=>RN.go 2 [.own 1] λ _=>RN.ct (Hp:=[]) (Tp:=[]) [] [] (edges_any n _) ?_
 rintro _ q2 rfl
 refine RN.go 3 [] λ _=>RN.range (σ:=Nat) (τ:=Nat) (encs:=λ (x_:Int × Int)=>#[vI x_.1,vI x_.2]) (xs:=(edgL n)) (enters_of Tryz.func276 (by kernel_rfl) rfl) (λ m_=>([((n1+1),.lit [.bool false] 4 (0,0)),((n1+0),.lit [vS b (o * 2) n cap] 99 (0,0))],[])) (λ i_ m_=>m_=i_ /\ ∀ t,t < m_ -> edgeF (λ k_=>full.getD (o+k_) ⟨0,0⟩) n t) (λ c_ m_=>c_=Code.ret /\ ¬ convF (λ k_=>full.getD (o+k_) ⟨0,0⟩) n) (λ m_=>⟨[(1,vP (n1+0) 0),(2,vP (n1+1) 0),(3,vI (m_:Int)),(4,vI (((m_:Int)+1) % (n:Int)))],[((n1+1),.lit [.bool false] 4 (0,0)),((n1+0),.lit [vS b (o * 2) n cap] 99 (0,0))],[],True,0⟩) (λ i_ x_ m_=>m_=i_ /\ ∀ t,t < m_ -> edgeF (λ k_=>full.getD (o+k_) ⟨0,0⟩) n t) 0 (⟨rfl,λ t ht=>absurd ht (Nat.not_lt_zero _)⟩) [1,2] [] (edges_it n q2 _ hnn (in_ap 0)) ?_ ?_ ?_ ?_
 ·rintro l_ i_ x_ m_ Y3 w4 hx5 hI_ mt6
  obtain ⟨rfl,hok⟩:=hI_
  obtain ⟨hm_,rfl⟩:=edgL_inv hx5
  refine RN.go 8 [] λ _=>?_
  refine mt6 m_ [0,1] [] ?_
  try dsimp only
  exact ⟨rfl,hok⟩
 ·rintro l_ i_ x_ m_ Y7 w8 hx9 hI_
  obtain ⟨rfl,hok⟩:=hI_
  obtain ⟨hm_,rfl⟩:=edgL_inv hx9
  have hm1:=Int.emod_nonneg ((m_:Int)+1) (show (n:Int) ≠ 0 by omega)
  have hm2:=Int.emod_lt_of_pos ((m_:Int)+1) (show (0:Int) < n by omega)
  refine RN.go 2 [] λ _=>RN.draw [] []<|RD.goP [] [0,1,4,5,2,6,3,7] [.own 1,.own 1,.ix m_,.ix (((((m_:Int)+1) % (n:Int))).toNat),.rorow 1 (o+m_) 0,.rorow 1 (o+m_) 1,.rorow 1 (o+(((((m_:Int)+1) % (n:Int))).toNat)) 0,.rorow 1 (o+(((((m_:Int)+1) % (n:Int))).toNat)) 1] [((o * 2+(((((m_:Int)+1) % (n:Int))).toNat) * 2)+1)=(o+(((((m_:Int)+1) % (n:Int))).toNat)) * 2+1 /\ (o+(((((m_:Int)+1) % (n:Int))).toNat)) < N,(o * 2+(((((m_:Int)+1) % (n:Int))).toNat) * 2)=(o+(((((m_:Int)+1) % (n:Int))).toNat)) * 2+0 /\ (o+(((((m_:Int)+1) % (n:Int))).toNat)) < N,((o * 2+m_ * 2)+1)=(o+m_) * 2+1 /\ (o+m_) < N,(o * 2+m_ * 2)=(o+m_) * 2+0 /\ (o+m_) < N,(((m_:Int)+1) % (n:Int))=((((((m_:Int)+1) % (n:Int))).toNat:Nat):Int) /\ ((((m_:Int)+1) % (n:Int))).toNat < n,(m_:Int)=((m_:Nat):Int) /\ m_ < n]<|RD.one 8 (RDO.ct [] (Hp:=[]) (Tp:=[]) [] [] (side_any (full.getD (o+m_) ⟨0,0⟩) (full.getD (o+(((((m_:Int)+1) % (n:Int))).toNat)) ⟨0,0⟩) _) ?_)
  rintro _ m10 rfl
  refine RD.go [] [9] []<|RD.fin<|RN.go 6 [] λ _=>RN.cp (side1_any (full.getD (o+m_) ⟨0,0⟩) (full.getD (o+(((((m_:Int)+1) % (n:Int))).toNat)) ⟨0,0⟩) (⟨0,0⟩:V2) (m10+1) (m10+0) _ (in_ap 0) (in_ap 1))<|RN.go 3 [] λ _=>RN.em (sideQ (full.getD (o+m_) ⟨0,0⟩) (full.getD (o+(((((m_:Int)+1) % (n:Int))).toNat)) ⟨0,0⟩) (⟨0,0⟩:V2) <= 0) 25 (λ h11=>?_) λ h11=>?_
  ·refine RN.go 6 [.own 2] λ _=>RN.rr m_ [2,3] [] ?_
   try dsimp only
   exact ⟨rfl,λ hc_=>(hc_ m_ hm_).1 h11⟩
  ·refine RN.go 11 [.own 3] λ _=>RN.loop (σ:=Nat) (λ k=>⟨[(2,vP (n1+1) 0),(3,vI (m_:Int)),(4,vI (((m_:Int)+1) % (n:Int))),(5,.func (.func 277) #[] #[vP (m10+1) 0,vP (m10+0) 0]),(26,vS b (o * 2) n cap),(27,vI (n:Int)),(28,vI (k:Int))],[((m10+1),.lit [vI ((full.getD (o+(((((m_:Int)+1) % (n:Int))).toNat)) ⟨0,0⟩).x),vI ((full.getD (o+(((((m_:Int)+1) % (n:Int))).toNat)) ⟨0,0⟩).y)] 29 (0,0)),((m10+0),.lit [vI ((full.getD (o+m_) ⟨0,0⟩).x),vI ((full.getD (o+m_) ⟨0,0⟩).y)] 29 (0,0)),((n1+1),.lit [.bool false] 4 (0,0)),((n1+0),.lit [vS b (o * 2) n cap] 99 (0,0))],[],k <= n /\ ∀ t,t < k -> ¬ (t:Int)=(m_:Int) -> ¬ (t:Int)=nxtI n m_ -> ¬ sideQ (full.getD (o+m_) ⟨0,0⟩) (full.getD (o+(nxtI n m_).toNat) ⟨0,0⟩) (full.getD (o+t) ⟨0,0⟩) <= 0,n - k⟩) 0 [0,1,2,3] [] (⟨Nat.zero_le _,λ t ht=>absurd ht (Nat.not_lt_zero _)⟩) ?_
   rintro k ⟨hkl,hin⟩ mt13
   refine RN.go 6 [] λ _=>RN.em ((k:Int) < (n:Int)) 29 (λ h14=>?_) λ h14=>?_
   ·refine RN.goP 21 [.ix k,.rorow 1 (o+k) 0,.rorow 1 (o+k) 1,.own 0,.own 0] [((o * 2+k * 2)+1)=(o+k) * 2+1 /\ (o+k) < N,(o * 2+k * 2)=(o+k) * 2+0 /\ (o+k) < N,(k:Int)=((k:Nat):Int) /\ k < n] λ n15=>RN.en ((k:Int)=(m_:Int)) 36 (λ h16=>?_) λ h16=>?_
    ·refine RN.goP 20 [.nw] [I64 ((k:Int)+1)] λ _=>?_
     refine mt13 (k+1) [1,2,3,4] [] ?_
     try dsimp only
     refine ⟨⟨by omega,λ t ht e1_ e2_=>?_⟩,by omega⟩
     rcases Nat.lt_or_ge t k with h_ | h_
     ·exact hin t h_ e1_ e2_
     ·obtain rfl:t=k:=by omega
      exact absurd h16 e1_
    ·refine RN.go 5 [] λ _=>RN.en ((k:Int)=(((m_:Int)+1) % (n:Int))) 41 (λ h17=>?_) λ h17=>?_
     ·refine RN.goP 15 [.nw] [I64 ((k:Int)+1)] λ _=>?_
      refine mt13 (k+1) [1,2,3,4] [] ?_
      try dsimp only
      refine ⟨⟨by omega,λ t ht e1_ e2_=>?_⟩,by omega⟩
      rcases Nat.lt_or_ge t k with h_ | h_
      ·exact hin t h_ e1_ e2_
      ·obtain rfl:t=k:=by omega
       exact absurd h17 e2_
     ·refine RN.go 2 [.own 0,.own 0] λ _=>RN.cp (side1_any (full.getD (o+m_) ⟨0,0⟩) (full.getD (o+(((((m_:Int)+1) % (n:Int))).toNat)) ⟨0,0⟩) (full.getD (o+k) ⟨0,0⟩) (m10+1) (m10+0) _ (in_ap 1) (in_ap 2))<|RN.go 4 [] λ _=>RN.em (sideQ (full.getD (o+m_) ⟨0,0⟩) (full.getD (o+(((((m_:Int)+1) % (n:Int))).toNat)) ⟨0,0⟩) (full.getD (o+k) ⟨0,0⟩) <= 0) 46 (λ h18=>?_) λ h18=>?_
      ·refine RN.go 6 [.own 3] λ _=>RN.rr m_ [3,4] [] ?_
       try dsimp only
       refine ⟨rfl,λ hc_=>?_⟩
       exact (hc_ m_ hm_).2 k (by omega) h16 h17 h18
      ·refine RN.goP 8 [.nw] [I64 ((k:Int)+1)] λ _=>?_
       refine mt13 (k+1) [1,2,3,4] [] ?_
       try dsimp only
       refine ⟨⟨by omega,λ t ht e1_ e2_=>?_⟩,by omega⟩
       rcases Nat.lt_or_ge t k with h_ | h_
       ·exact hin t h_ e1_ e2_
       ·obtain rfl:t=k:=by omega
        exact h18
   ·refine RN.go 6 [] λ _=>RN.rn (m_+1) [2,3] [] ?_
    try dsimp only
    refine ⟨rfl,λ t ht=>?_⟩
    rcases Nat.lt_or_ge t m_ with h_ | h_
    ·exact hok t h_
    ·obtain rfl:t=m_:=by omega
     exact ⟨h11,λ s_ hs_=>hin s_ (by omega)⟩
 ·rintro d19 m_  hI_
  obtain ⟨rfl,hok⟩:=hI_
  refine RN.go 7 [.own 1] λ _=>RN.retM [d19] [0] [.own 0] [] [] (v:=.bool true) (H':=[]) ?_
  exact ⟨by rw [decide_eq_true (show convF (λ k_=>full.getD (o+k_) ⟨0,0⟩) n from λ t ht=>hok t (by rw [edgL_len];exact ht))],rfl⟩
 ·rintro d20 c_ m_ ⟨rfl,hno⟩
  refine RN.retM [d20] [0] [.own 0] [] [] (v:=.bool false) (H':=[]) ?_
  exact ⟨by rw [decide_eq_false hno],rfl⟩
def inRP (n:Int):Prop:=-32768 <= n /\ n <= 32768
instance (n:Int):Decidable (inRP n):=inferInstanceAs (Decidable (_ /\ _))
def circOk (r:Int):Prop:=1 <= r /\ r <= 32768
instance (r:Int):Decidable (circOk r):=inferInstanceAs (Decidable (_ /\ _))
def polOk (r:Int) (f:Nat -> V2) (n:Nat):Prop:=(r=0 /\ 3 <= n /\ n <= 6) /\ (∀ k,k < n -> inRP (f k).x /\ inRP (f k).y) /\ convF f n
instance (r:Int) (f:Nat -> V2) (n:Nat):Decidable (polOk r f n):=inferInstanceAs (Decidable (_ /\ _ /\ _))
theorem polOk_congr {r:Int} {f g:Nat -> V2} {n:Nat} (h:∀ k,k < n -> f k=g k) (hf:polOk r f n):polOk r g n :=
 ⟨hf.1,λ k hk=>by rw [<- h k hk];exact hf.2.1 k hk,convF_congr h hf.2.2⟩
def shOk (s:Shp):Prop:=if s.poly.length=0 then circOk s.r else polOk s.r (vat s.poly) s.poly.length
instance (s:Shp):Decidable (shOk s):=inferInstanceAs (Decidable (if s.poly.length=0 then circOk s.r else polOk s.r (vat s.poly) s.poly.length))
theorem shOk_circ {r:Int} {A:Option Addr} {cap:Nat}:shOk ⟨r,[],A,cap⟩ ↔ circOk r:=by
 show (if (0:Nat)=0 then circOk r else _) ↔ _
 rw [if_pos rfl]
def shE (s:Shp):Int:=if shOk s then 0 else 10
theorem inRP_any (n:Int)  (F:HL):Sp Tryz.prog 191 #[vI n] [] F (λ u H'=>u=.bool (decide (inRP n)) /\ H'=[]):=by
 refine Sp.run Tryz.func191 rfl mn (A:=[]) (Ts:=[]) rfl λ w0=>?_
 refine RN.go 10 [] λ _=>RN.em ((-32768) <= n) 5 (λ h1=>?_) λ h1=>?_
 ·refine RN.go 6 [] λ _=>RN.ret [] [] [] (v:=.bool (decide (n <= 32768))) (H':=[]) ?_
  exact ⟨by simp [inRP, *],rfl⟩
 ·refine RN.go 6 [] λ _=>RN.ret [] [] [] (v:=.bool false) (H':=[]) ?_
  exact ⟨by simp [inRP, *],rfl⟩
theorem shv_circle (r:Int) (A:Option Addr) (cap:Nat) (F:HL):Sp Tryz.prog 129 #[.agg #[vI r,.slice A 0 cap]] [] F (λ u H'=>u=vI (shE ⟨r,[],A,cap⟩) /\ H'=[]):=by
 refine Sp.run Tryz.func129 rfl mn (A:=[]) (Ts:=[]) rfl λ w0=>?_
 refine RN.go 10 [.own 0,.own 0] λ n1=>RN.cp (sc_any r A 0 cap _)<|RN.go 10 [.own 0] λ _=>RN.em (r < 1) 10 (λ h2=>?_) λ h2=>?_
 ·refine RN.go 12 [] λ _=>RN.ret [] [] [] (v:=vI 10) (H':=[]) ?_
  exact ⟨by rw [shE,if_neg (λ h_=>by have h2_:=shOk_circ.1 h_;unfold circOk at h2_;omega)],rfl⟩
 ·refine RN.go 6 [.own 0] λ _=>RN.em (r > 32768) 14 (λ h3=>?_) λ h3=>?_
  ·refine RN.go 6 [] λ _=>RN.ret [] [] [] (v:=vI 10) (H':=[]) ?_
   exact ⟨by rw [shE,if_neg (λ h_=>by have h2_:=shOk_circ.1 h_;unfold circOk at h2_;omega)],rfl⟩
  ·refine RN.go 8 [] λ _=>RN.ret [] [] [] (v:=vI 0) (H':=[]) ?_
   exact ⟨by rw [shE,if_pos (shOk_circ.2 ⟨by omega,by omega⟩)],rfl⟩
theorem shv_poly (r:Int) (full:List V2) (b o N n cap:Nat) (fz:Nat × Nat) (F:HL) (hb:(b,.rows 2 N (vrow full) 29 fz) ∈ F) (ho:o+n <= N) (h1:1 <= n) (hnn:n <= 1000000):Sp Tryz.prog 129 #[.agg #[vI r,vS b (o * 2) n cap]] [] F (λ u H'=>u=vI (if polOk r (λ k_=>full.getD (o+k_) ⟨0,0⟩) n then 0 else 10) /\ H'=[]):=by
 refine Sp.run Tryz.func129 rfl (mc hb mn) (A:=[]) (Ts:=[]) rfl λ w0=>?_
 refine RN.go 10 [.own 0,.own 0] λ n1=>RN.cp (sc_any r (some ⟨b,o * 2,none⟩) n cap _)<|RN.go 2 [] λ _=>RN.fx 6 (decide_eq_false (show ¬ ((n:Int)=0) by omega))<|RN.go 10 [.own 0] λ _=>RN.en (r=0) 18 (λ h2=>?_) λ h2=>?_
 ·refine RN.go 6 [.own 0] λ _=>RN.em ((n:Int) < 3) 24 (λ h3=>?_) λ h3=>?_
  ·refine RN.go 13 [] λ _=>RN.ret [] [] [] (v:=vI 10) (H':=[]) ?_
   exact ⟨by rw [if_neg (show ¬ polOk r (λ k_=>full.getD (o+k_) ⟨0,0⟩) n from λ h_=>by have:=h_.1;omega)],rfl⟩
  ·refine RN.go 7 [.own 0] λ _=>RN.em ((n:Int) > 6) 29 (λ h4=>?_) λ h4=>?_
   ·refine RN.go 6 [] λ _=>RN.ret [] [] [] (v:=vI 10) (H':=[]) ?_
    exact ⟨by rw [if_neg (show ¬ polOk r (λ k_=>full.getD (o+k_) ⟨0,0⟩) n from λ h_=>by have:=h_.1;omega)],rfl⟩
   ·refine RN.go 13 [.own 0] λ _=>RN.loop (σ:=Nat) (λ k=>⟨[(1,vP (n1+0) 0),(31,vS b (o * 2) n cap),(32,vI (n:Int)),(33,vI (k:Int))],[((n1+0),.lit [vI r,vS b (o * 2) n cap] 101 (0,0))],[],k <= n /\ ∀ t,t < k -> inRP (full.getD (o+t) (⟨0,0⟩:V2)).x /\ inRP (full.getD (o+t) (⟨0,0⟩:V2)).y,n - k⟩) 0 [0] [] (⟨Nat.zero_le _,λ t ht=>absurd ht (Nat.not_lt_zero _)⟩) ?_
    rintro k ⟨hkl,hin⟩ mt6
    refine RN.go 6 [] λ _=>RN.em ((k:Int) < (n:Int)) 34 (λ h7=>?_) λ h7=>?_
    ·refine RN.goP 17 [.ix k,.rorow 0 (o+k) 0,.rorow 0 (o+k) 1,.own 0,.own 0,.own 0] [((o * 2+k * 2)+1)=(o+k) * 2+1 /\ (o+k) < N,(o * 2+k * 2)=(o+k) * 2+0 /\ (o+k) < N,(k:Int)=((k:Nat):Int) /\ k < n] λ n8=>RN.cp (inRP_any ((full.getD (o+k) ⟨0,0⟩).x)  _)<|RN.go 2 [] λ _=>RN.en (inRP ((full.getD (o+k) ⟨0,0⟩).x)) 41 (λ h9=>?_) λ h9=>?_
     ·refine RN.go 2 [.own 0] λ _=>RN.cp (inRP_any ((full.getD (o+k) ⟨0,0⟩).y)  _)<|RN.go 4 [] λ _=>RN.en (inRP ((full.getD (o+k) ⟨0,0⟩).y)) 46 (λ h10=>?_) λ h10=>?_
      ·refine RN.goP 8 [.nw] [I64 ((k:Int)+1)] λ _=>?_
       refine mt6 (k+1) [1] [] ?_
       try dsimp only
       refine ⟨⟨by omega,λ t ht=>?_⟩,by omega⟩
       rcases Nat.lt_or_ge t k with h_ | h_
       ·exact hin t h_
       ·obtain rfl:t=k:=by omega
        exact ⟨h9,h10⟩
      ·refine RN.go 6 [] λ _=>RN.ret [] [] [] (v:=vI 10) (H':=[]) ?_
       exact ⟨by rw [if_neg (show ¬ polOk r (λ k_=>full.getD (o+k_) ⟨0,0⟩) n from λ h_=>h10 (h_.2.1 k (by omega)).2)],rfl⟩
     ·refine RN.go 13 [] λ _=>RN.ret [] [] [] (v:=vI 10) (H':=[]) ?_
      exact ⟨by rw [if_neg (show ¬ polOk r (λ k_=>full.getD (o+k_) ⟨0,0⟩) n from λ h_=>h9 (h_.2.1 k (by omega)).1)],rfl⟩
    ·refine RN.go 11 [.own 0] λ _=>RN.cp (conv_any full b o N n cap fz _ (ro_ap hb) ho hnn)<|RN.go 3 [] λ _=>RN.en (convF (λ k_=>full.getD (o+k_) ⟨0,0⟩) n) 51 (λ h11=>?_) λ h11=>?_
     ·refine RN.go 8 [] λ _=>RN.ret [] [] [] (v:=vI 0) (H':=[]) ?_
      exact ⟨by rw [if_pos (show polOk r (λ k_=>full.getD (o+k_) ⟨0,0⟩) n from ⟨⟨by omega,by omega,by omega⟩,λ t ht=>hin t (by omega),h11⟩)],rfl⟩
     ·refine RN.go 6 [] λ _=>RN.ret [] [] [] (v:=vI 10) (H':=[]) ?_
      exact ⟨by rw [if_neg (show ¬ polOk r (λ k_=>full.getD (o+k_) ⟨0,0⟩) n from λ h_=>h11 h_.2.2)],rfl⟩
 ·refine RN.go 19 [] λ _=>RN.ret [] [] [] (v:=vI 10) (H':=[]) ?_
  exact ⟨by rw [if_neg (show ¬ polOk r (λ k_=>full.getD (o+k_) ⟨0,0⟩) n from λ h_=>by have:=h_.1;omega)],rfl⟩
theorem shv_any (s:Shp) (F:HL) (h:RowL vecE 29 F s.A s.poly.length s.poly) (hn:s.poly.length <= 1000000):Sp Tryz.prog 129 #[shV s] [] F (λ u H'=>u=vI (shE s) /\ H'=[]):=by
 obtain ⟨r,l,A,cap⟩:=s
 simp only at h hn
 rcases Nat.eq_zero_or_pos l.length with h0 | h0
 ·obtain rfl:l=[]:=List.eq_nil_of_length_eq_zero h0
  exact shv_circle r A cap F
 ·generalize hm:l.length=m at h h0 hn
  cases h with
  | zero=>omega
  | rows q o N full fz n xs hq ho hn' hx =>
   have:=shv_poly r full q o N m cap fz F hq ho h0 hn
   have e:shE ⟨r,l,some ⟨q,o * 2,none⟩,cap⟩=if polOk r (λ k_=>full.getD (o+k_) ⟨0,0⟩) m then 0 else 10:=by
    have e1:shOk ⟨r,l,some ⟨q,o * 2,none⟩,cap⟩ ↔ polOk r (λ k_=>full.getD (o+k_) ⟨0,0⟩) m:=by
     unfold shOk
     simp only
     rw [if_neg (by omega),hm]
     exact ⟨polOk_congr λ k hk=>(hx k hk).symm,polOk_congr λ k hk=>hx k hk⟩
    unfold shE
    by_cases hc:polOk r (λ k_=>full.getD (o+k_) ⟨0,0⟩) m
    ·rw [if_pos hc,if_pos (e1.2 hc)]
    ·rw [if_neg hc,if_neg λ h=>hc (e1.1 h)]
   show Sp _ _ #[.agg #[vI r,.slice (some ⟨q,o * 2,none⟩) l.length cap]] _ _ (λ u H'=>u=vI (shE ⟨r,l,some ⟨q,o * 2,none⟩,cap⟩) /\ H'=[])
   rw [e,hm]
   exact this
structure SetSh (F:HL) (S:Setup):Prop where
 nb:S.nb <= 1000000
 blk:(S.bb,.rows 9 S.bR (brow S.bods) 106 (0,0)) ∈ F
 room:S.bo+S.nb <= S.bR
 pol:∀ k,k < S.nb -> RowL vecE 29 F (S.body k).sh.A (S.body k).sh.poly.length (S.body k).sh.poly /\ (S.body k).sh.poly.length <= 1000000
theorem ShIn.rowL {F:HL} {s:Shp} (h:ShIn F s):RowL vecE 29 F s.A s.poly.length s.poly /\ s.poly.length <= 1000000:=by
 cases h with
 | circle r A cap=>exact ⟨.zero _,Nat.zero_le _⟩
 | poly r l b cap h h3 h4 h5=>exact ⟨RowL.whole (e:=vecE) h h4,h5⟩
def valP (S:Setup) (rs:List Bx) (ds:List Dr):Prop:=vnumP S /\ properP S.box /\ vmapP S rs ds
instance (S:Setup) (rs:List Bx) (ds:List Dr):Decidable (valP S rs ds):=inferInstanceAs (Decidable (_ /\ _))
def valE (S:Setup) (rs:List Bx) (ds:List Dr):Int:=if ∀ k,k < S.nb -> shOk (S.body k).sh then (if valP S rs ds then (if ∀ k,k < S.nb -> vbodyP (S.body k) S.box then 0 else 11) else 11) else 10
theorem shE_ok {s:Shp} (h:shE s=0):shOk s:=by
 unfold shE at h
 split at h
 ·assumption
 ·omega
theorem shE_no {s:Shp} (h:¬ shE s=0):¬ shOk s:=λ hc=>h (by rw [shE,if_pos hc])
theorem val_any (S:Setup) (rs:List Bx) (ds:List Dr) (F:HL) (hS:SetSh F S) (hM:MapIn F S rs ds):Sp Tryz.prog 80 #[(Setup.v S)] [] F (λ u H'=>u=vI (valE S rs ds) /\ H'=[]):=by
 have hn:=hS.nb
 have hr:=hS.room
 refine Sp.run Tryz.func80 rfl (mc hS.blk mn) (A:=[]) (Ts:=[]) rfl λ w0=>?_
 refine RN.go 16 [.own 0] λ n1=>RN.loop (σ:=Nat) (λ k=>⟨[(1,vP (n1+0) 0),(8,vS S.bb (S.bo * 9) S.nb S.bc),(9,vI (S.nb:Int)),(10,vI (k:Int))],[((n1+0),.lit (Setup.l S) 31 (0,0))],[],k <= S.nb /\ ∀ t,t < k -> shOk (S.body t).sh,S.nb - k⟩) 0 [0] [] (⟨Nat.zero_le _,λ t ht=>absurd ht (Nat.not_lt_zero _)⟩) ?_
 rintro k ⟨hkl,hsh⟩ mt3
 refine RN.go 6 [] λ _=>RN.em ((k:Int) < (S.nb:Int)) 11 (λ h4=>?_) λ h4=>?_
 ·refine RN.goP 17 ([.ix k,.rorow 0 (S.bo+k) 0,.rorow 0 (S.bo+k) 1,.rorow 0 (S.bo+k) 2,.rorow 0 (S.bo+k) 3,.rorow 0 (S.bo+k) 4,.rorow 0 (S.bo+k) 5,.rorow 0 (S.bo+k) 6,.rorow 0 (S.bo+k) 7,.rorow 0 (S.bo+k) 8]++ow 0 11) [((S.bo * 9+k * 9)+8)=(S.bo+k) * 9+8 /\ (S.bo+k) < S.bR,((S.bo * 9+k * 9)+7)=(S.bo+k) * 9+7 /\ (S.bo+k) < S.bR,((S.bo * 9+k * 9)+6)=(S.bo+k) * 9+6 /\ (S.bo+k) < S.bR,((S.bo * 9+k * 9)+5)=(S.bo+k) * 9+5 /\ (S.bo+k) < S.bR,((S.bo * 9+k * 9)+4)=(S.bo+k) * 9+4 /\ (S.bo+k) < S.bR,((S.bo * 9+k * 9)+3)=(S.bo+k) * 9+3 /\ (S.bo+k) < S.bR,((S.bo * 9+k * 9)+2)=(S.bo+k) * 9+2 /\ (S.bo+k) < S.bR,((S.bo * 9+k * 9)+1)=(S.bo+k) * 9+1 /\ (S.bo+k) < S.bR,(S.bo * 9+k * 9)=(S.bo+k) * 9+0 /\ (S.bo+k) < S.bR,(k:Int)=((k:Nat):Int) /\ k < S.nb] λ n5=>RN.cp (shv_any ((S.bods.getD (S.bo+k) dB).sh) _ (hS.pol k (by omega)).1.up (hS.pol k (by omega)).2)<|RN.go 3 [] λ _=>RN.en (shE ((S.bods.getD (S.bo+k) dB).sh)=0) 17 (λ h6=>?_) λ h6=>?_
  ·refine RN.goP 8 [.nw] [I64 ((k:Int)+1)] λ _=>?_
   refine mt3 (k+1) [1] [] ?_
   try dsimp only
   refine ⟨⟨by omega,λ t ht=>?_⟩,by omega⟩
   rcases Nat.lt_or_ge t k with h_ | h_
   ·exact hsh t h_
   ·obtain rfl:t=k:=by omega
    exact shE_ok h6
  ·refine RN.go 6 [] λ _=>RN.ret [] [] [] (v:=vI 10) (H':=[]) ?_
   exact ⟨by rw [valE,if_neg (show ¬ ∀ k,k < S.nb -> shOk (S.body k).sh from λ h_=>shE_no h6 (h_ k (by omega)))],rfl⟩
 ·refine RN.go 10 (ow 0 16) λ _=>RN.cp (vnum_any S _)<|RN.go 2 [] λ _=>RN.en (vnumP S) 22 (λ h7=>?_) λ h7=>?_
  ·refine RN.go 2 [.own 0,.own 0,.own 0,.own 0] λ _=>RN.cp (proper_any S.box  _)<|RN.go 3 [] λ _=>RN.en (properP S.box) 28 (λ h8=>?_) λ h8=>?_
   ·refine RN.go 1 (ow 0 16) λ _=>RN.cp (vmap_any S rs ds _ hM.up)<|RN.go 4 [] λ _=>RN.en (vmapP S rs ds) 32 (λ h9=>?_) λ h9=>?_
    ·refine RN.go 13 [.own 0] λ _=>RN.loop (σ:=Nat) (λ j=>⟨[(1,vP (n1+0) 0),(34,vS S.bb (S.bo * 9) S.nb S.bc),(35,vI (S.nb:Int)),(36,vI (j:Int))],[((n1+0),.lit (Setup.l S) 31 (0,0))],[],j <= S.nb /\ ∀ t,t < j -> vbodyP (S.body t) S.box,S.nb - j⟩) 0 [0] [] (⟨Nat.zero_le _,λ t ht=>absurd ht (Nat.not_lt_zero _)⟩) ?_
     rintro j ⟨hjl,hvb⟩ mt11
     refine RN.go 6 [] λ _=>RN.em ((j:Int) < (S.nb:Int)) 37 (λ h12=>?_) λ h12=>?_
     ·refine RN.goP 18 ([.ix j,.rorow 0 (S.bo+j) 0,.rorow 0 (S.bo+j) 1,.rorow 0 (S.bo+j) 2,.rorow 0 (S.bo+j) 3,.rorow 0 (S.bo+j) 4,.rorow 0 (S.bo+j) 5,.rorow 0 (S.bo+j) 6,.rorow 0 (S.bo+j) 7,.rorow 0 (S.bo+j) 8]++ow 0 18++[.own 1,.own 1,.own 1,.own 1]) [((S.bo * 9+j * 9)+8)=(S.bo+j) * 9+8 /\ (S.bo+j) < S.bR,((S.bo * 9+j * 9)+7)=(S.bo+j) * 9+7 /\ (S.bo+j) < S.bR,((S.bo * 9+j * 9)+6)=(S.bo+j) * 9+6 /\ (S.bo+j) < S.bR,((S.bo * 9+j * 9)+5)=(S.bo+j) * 9+5 /\ (S.bo+j) < S.bR,((S.bo * 9+j * 9)+4)=(S.bo+j) * 9+4 /\ (S.bo+j) < S.bR,((S.bo * 9+j * 9)+3)=(S.bo+j) * 9+3 /\ (S.bo+j) < S.bR,((S.bo * 9+j * 9)+2)=(S.bo+j) * 9+2 /\ (S.bo+j) < S.bR,((S.bo * 9+j * 9)+1)=(S.bo+j) * 9+1 /\ (S.bo+j) < S.bR,(S.bo * 9+j * 9)=(S.bo+j) * 9+0 /\ (S.bo+j) < S.bR,(j:Int)=((j:Nat):Int) /\ j < S.nb] λ n13=>RN.cp (vbody_any (S.bods.getD (S.bo+j) dB) S.box _)<|RN.go 3 [] λ _=>RN.en (vbodyP (S.bods.getD (S.bo+j) dB) S.box) 44 (λ h14=>?_) λ h14=>?_
      ·refine RN.goP 8 [.nw] [I64 ((j:Int)+1)] λ _=>?_
       refine mt11 (j+1) [1] [] ?_
       try dsimp only
       refine ⟨⟨by omega,λ t ht=>?_⟩,by omega⟩
       rcases Nat.lt_or_ge t j with h_ | h_
       ·exact hvb t h_
       ·obtain rfl:t=j:=by omega
        exact h14
      ·refine RN.go 6 [] λ _=>RN.ret [] [] [] (v:=vI 11) (H':=[]) ?_
       exact ⟨by rw [valE,if_pos (show ∀ k,k < S.nb -> shOk (S.body k).sh from λ t ht=>hsh t (by omega)),if_pos (show valP S rs ds from ⟨h7,h8,h9⟩),if_neg (show ¬ ∀ k,k < S.nb -> vbodyP (S.body k) S.box from λ h_=>h14 (h_ j (by omega)))],rfl⟩
     ·refine RN.go 11 [] λ _=>RN.ret [] [] [] (v:=vI 0) (H':=[]) ?_
      exact ⟨by rw [valE,if_pos (show ∀ k,k < S.nb -> shOk (S.body k).sh from λ t ht=>hsh t (by omega)),if_pos (show valP S rs ds from ⟨h7,h8,h9⟩),if_pos (show ∀ k,k < S.nb -> vbodyP (S.body k) S.box from λ t ht=>hvb t (by omega))],rfl⟩
    ·refine RN.go 6 [] λ _=>RN.ret [] [] [] (v:=vI 11) (H':=[]) ?_
     exact ⟨by rw [valE,if_pos (show ∀ k,k < S.nb -> shOk (S.body k).sh from λ t ht=>hsh t (by omega)),if_neg (show ¬ valP S rs ds from λ h_=>h9 h_.2.2)],rfl⟩
   ·refine RN.go 12 [] λ _=>RN.ret [] [] [] (v:=vI 11) (H':=[]) ?_
    exact ⟨by rw [valE,if_pos (show ∀ k,k < S.nb -> shOk (S.body k).sh from λ t ht=>hsh t (by omega)),if_neg (show ¬ valP S rs ds from λ h_=>h8 h_.2.1)],rfl⟩
  ·refine RN.go 18 [] λ _=>RN.ret [] [] [] (v:=vI 11) (H':=[]) ?_
   exact ⟨by rw [valE,if_pos (show ∀ k,k < S.nb -> shOk (S.body k).sh from λ t ht=>hsh t (by omega)),if_neg (show ¬ valP S rs ds from λ h_=>h7 h_.1)],rfl⟩
end Go.Proofs.YtghjbimijeinfaaGreatDoor
