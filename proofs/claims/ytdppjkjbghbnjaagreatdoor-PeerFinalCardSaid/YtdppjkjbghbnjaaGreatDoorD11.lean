import Derived.Test.YtdppjkjbghbnjaaGreatDoorD10
set_option maxHeartbeats 4000000
set_option maxRecDepth 100000
set_option linter.all false
namespace Go.Proofs.YtdppjkjbghbnjaaGreatDoor
open Go.RowKit
def tw(v w p:V2):Int:=bd (bd (bd (w.x-v.x)*bd (p.y-v.y))-bd (bd (w.y-v.y)*bd (p.x-v.x)))
def uZ(n:Nat):List (Int × Int):=(List.range n).map λ i:Nat=>((i:Int),((i:Int)+1) % (n:Int))
theorem qZ(n:Nat):(uZ n).length=n:=by simp[uZ]
theorem xt{n k:Nat}(h:k<n):(uZ n)[k]?=some ((k:Int),((k:Int)+1) % (n:Int)):=by simp[uZ,h]
theorem xu{n k:Nat}{x:Int × Int}(h:(uZ n)[k]?=some x):k<n /\ x=((k:Int),((k:Int)+1) % (n:Int)):=by
 have hk:k<n:=by rw[<- qZ n];exact(List.getElem?_eq_some_iff.1 h).1
 rw[xt hk] at h;exact⟨hk,(Option.some.inj h).symm⟩
abbrev Md(x:Int × Int):Array Value:=#[vI x.1,vI x.2]
def xv(n k:Nat):Int:=((k:Int)+1) % (n:Int)
abbrev vat(l:List V2)(k:Nat):V2:=l.getD k ⟨0,0⟩
def xw(f:Nat -> V2)(n i:Nat):Prop:=¬ tw (f i) (f (xv n i).toNat) ⟨0,0⟩ <= 0 /\ ∀k,k<n -> ¬ (k:Int)=(i:Int) -> ¬ (k:Int)=xv n i -> ¬ tw (f i) (f (xv n i).toNat) (f k) <= 0
instance (f:Nat -> V2) (n i:Nat):Decidable (xw f n i):=inferInstanceAs (Decidable (_ /\ _))
def pD(f:Nat -> V2)(n:Nat):Prop:=∀i,i<n -> xw f n i
instance (f:Nat -> V2) (n:Nat):Decidable (pD f n):=inferInstanceAs (Decidable (∀i,i<n -> _))
theorem KF{n k:Nat}(h:k<n):0 <= xv n k /\ xv n k<n:=⟨Int.emod_nonneg _ (by omega),Int.emod_lt_of_pos _ (by omega)⟩
theorem xx{f g:Nat -> V2}{n:Nat}(h:∀k,k<n -> f k=g k)(hf:pD f n):pD g n:=λ i hi=>by
 have hb:=KF hi;have h1:=hf i hi;unfold xw at h1 ⊢;rw[h i hi,h (xv n i).toNat (by omega)] at h1;refine⟨h1.1,λ k hk a b=>?_⟩;have:=h1.2 k hk a b;rwa [h k hk] at this
theorem tz(v w p:V2)(qw qv:Nat)(F:HL)(hqw:(qw,.lit [vI w.x,vI w.y] 29 (0,0))∈F)(hqv:(qv,.lit [vI v.x,vI v.y] 29 (0,0))∈F):Sp Tryz.prog 217 #[.agg #[vI p.x,vI p.y],vP qw 0,vP qv 0] [] F (λ u H'=>u=vI (tw v w p) /\ H'=[]):=by
 refine aat Tryz.func217 rfl (mc hqw (mc hqv mn)) (A:=[]) (Ts:=[]) rfl λ w0=>?_;refine ae 34 [.ro 0,.ro 1,.own 0,.ro 1,.ro 0,.ro 1,.own 0,.ro 1] λ n1=>?_;exact aap [] [] [] ⟨rfl,rfl⟩
theorem Hb(v w:V2)(F:HL):Sp Tryz.prog 174 #[.agg #[vI v.x,vI v.y],.agg #[vI w.x,vI w.y]] (ap [] []) F (λ u H'=>∃n:Nat,H'=ap [((n+1),.lit [vI w.x,vI w.y] 29 (0,0)),((n+0),.lit [vI v.x,vI v.y] 29 (0,0))] [] /\ u=.func (.func 217) #[] #[vP (n+1) 0,vP (n+0) 0]):=by
 refine aat Tryz.func174 rfl mn (A:=[]) (Ts:=[]) rfl λ w0=>?_;refine ae 13 [] λ n1=>aap [] [0,1] [] (v:=.func (.func 217) #[] #[vP (n1+1) 0,vP (n1+0) 0]) (H':=(ap [((n1+1),.lit [vI w.x,vI w.y] 29 (0,0)),((n1+0),.lit [vI v.x,vI v.y] 29 (0,0))] [])) ?_;exact⟨_,rfl,rfl⟩
theorem D9(n:Nat)(F:HL):Sp Tryz.prog 173 #[vI (n:Int)] (ap [] []) F (λ u H'=>∃q:Nat,H'=ap [(q,.lit [vI (n:Int)] 3 (0,0))] [] /\ u=.func (.func 216) #[] #[vP q 0]):=by
 refine aat Tryz.func173 rfl mn (A:=[]) (Ts:=[]) rfl λ w0=>?_;refine ae 12 [] λ n1=>aap [] [0] [] (v:=.func (.func 216) #[] #[vP (n1+0) 0]) (H':=(ap [((n1+0),.lit [vI (n:Int)] 3 (0,0))] [])) ?_;exact⟨_,rfl,rfl⟩
theorem Ad(n q lp:Nat)(X F:HL)(J:Nat -> HL -> Prop)(Jx:HL -> Prop)(T0:HL)(hn:n <= 1000000)(hq:(q,.lit [vI (n:Int)] 3 (0,0))∈F)(hY:∀i x H Y,(uZ n)[i]?=some x -> J i H -> YL Tryz.prog lp (Md x) H (Y++(X++F)) (λ b H'=>(b=true /\ J (i+1) H') \/ (b=false /\ Jx H')))(Ue:J 0 T0):Sp Tryz.prog 216 #[.func (.yield lp) #[] #[],vP q 0] (ap [] [T0]) (X++F) (λ _ H'=>J (uZ n).length H' \/ Jx H'):=by
 refine aat Tryz.func216 rfl (mc (aav X hq) mn) (A:=[]) (Ts:=[T0]) rfl λ w0=>?_;refine ae 7 [.ro 0] λ _=>aan (σ:=Nat × HL) (λ ⟨k,T_⟩=>⟨[(0,.func (.yield lp) #[] #[]),(1,vP q 0),(4,vI (n:Int)),(5,vI (k:Int))],[],[T_],k <= n /\ J k T_,n-k⟩) (0,T0) [] [0] (⟨aa9 _,Ue⟩) ?_;rintro⟨k,T_⟩ ⟨VQ,R4⟩ R9;refine ae 6 [] λ _=>aal ((k:Int)<(n:Int)) 6 (λ h3=>?_) λ h3=>?_
 ·refine aj 19 [.nw,.ro 0,.nw] [0 <= (k:Int)+1 /\ (0:Int)<(n:Int) /\ (k:Int)+1 <= 9223372036854775807,bx ((k:Int)+1)] λ _=>aar 0 (hY k _ _ _ (xt (by omega)) R4) ?_;rintro b_ T4 (⟨rfl,hJ5⟩|⟨rfl,hJ5⟩)
  ·refine aj 11 [.gen,.nw] [bx ((k:Int)+1)] λ _=>?_;refine R9 (k+1,T4) [] [0] ?_
   try dsimp only
   exact⟨⟨by omega,hJ5⟩,by omega⟩
  ·refine ae 4 [] λ _=>aap [] [] [0] (v:=.tuple #[]) (H':=(ap [] [T4])) ?_;rw[bj];exact .inr hJ5
 ·refine ae 5 [] λ _=>aap [] [] [0] (v:=.tuple #[]) (H':=(ap [] [T_])) ?_;rw[bj];obtain rfl:k=n:=by omega
  exact .inl (by rw[qZ];exact R4)
theorem Hc(n q:Nat)(F:HL)(hn:n <= 1000000)(hq:(q,.lit [vI (n:Int)] 3 (0,0))∈F):It Tryz.prog 216 #[vP q 0] F Md (uZ n):=by
 intro X l J Jx H0 hY h0;have key:=Ad n q l X F J Jx H0 hn hq hY h0;rw[bj] at key;exact key
theorem He(full:List V2)(b o N n cap:Nat)(fz:Nat × Nat)(F:HL)(hb:(b,.rows 2 N (jL full) 29 fz)∈F)(ho:o+n <= N)(hnn:n <= 1000000):Sp Tryz.prog 141 #[vS b (o*2) n cap] [] F (λ u H'=>u=.bool (decide (pD (λ k_=>full.getD (o+k_) ⟨0,0⟩) n)) /\ H'=[]):=by
 refine Sp.runM Tryz.func141 rfl (mc hb mn) (A:=[]) (Ts:=[]) rfl λ w0=>?_;refine ae 9 [] λ n1=>ae 2 [.own 1] λ _=>aai (Hp:=[]) (Tp:=[]) [] [] (D9 n _) ?_;rintro _ q2 rfl;refine ae 3 [] λ _=>RN.range (σ:=Nat) (τ:=Nat) (encs:=λ (x_:Int × Int)=>#[vI x_.1,vI x_.2]) (xs:=(uZ n)) (enters_of Tryz.func216 (by kernel_rfl) rfl) (λ m_=>([((n1+1),.lit [.bool false] 4 (0,0)),((n1+0),.lit [vS b (o*2) n cap] 83 (0,0))],[])) (λ i_ m_=>m_=i_ /\ ∀t,t<m_ -> xw (λ k_=>full.getD (o+k_) ⟨0,0⟩) n t) (λ c_ m_=>c_=Code.ret /\ ¬ pD (λ k_=>full.getD (o+k_) ⟨0,0⟩) n) (λ m_=>⟨[(1,vP (n1+0) 0),(2,vP (n1+1) 0),(3,vI (m_:Int)),(4,vI (((m_:Int)+1) % (n:Int)))],[((n1+1),.lit [.bool false] 4 (0,0)),((n1+0),.lit [vS b (o*2) n cap] 83 (0,0))],[],True,0⟩) (λ i_ x_ m_=>m_=i_ /\ ∀t,t<m_ -> xw (λ k_=>full.getD (o+k_) ⟨0,0⟩) n t) 0 (⟨rfl,λ t ht=>absurd ht (Nat.not_lt_zero _)⟩) [1,2] [] (Hc n q2 _ hnn (av 0)) ?_ ?_ ?_ ?_
 ·rintro l_ i_ x_ m_ Y3 w4 hx5 S6 WK;obtain⟨rfl,g_⟩:=S6;obtain⟨hm_,rfl⟩:=xu hx5;refine ae 8 [] λ _=>?_;refine WK m_ [0,1] [] ?_
  try dsimp only
  exact⟨rfl,g_⟩
 ·rintro l_ i_ x_ m_ Y7 w8 hx9 S6;obtain⟨rfl,g_⟩:=S6;obtain⟨hm_,rfl⟩:=xu hx9;have hm1:=Int.emod_nonneg ((m_:Int)+1) (show (n:Int)≠0 by omega);have hm2:=Int.emod_lt_of_pos ((m_:Int)+1) (show (0:Int)<n by omega);refine ae 2 [] λ _=>aak [] []<|aD [] [0,1,4,5,2,6,3,7] [.own 1,.own 1,.ix m_,.ix (((((m_:Int)+1) % (n:Int))).toNat),.rorow 1 (o+m_) 0,.rorow 1 (o+m_) 1,.rorow 1 (o+(((((m_:Int)+1) % (n:Int))).toNat)) 0,.rorow 1 (o+(((((m_:Int)+1) % (n:Int))).toNat)) 1] [((o*2+(((((m_:Int)+1) % (n:Int))).toNat)*2)+1)=(o+(((((m_:Int)+1) % (n:Int))).toNat))*2+1 /\ (o+(((((m_:Int)+1) % (n:Int))).toNat))<N,(o*2+(((((m_:Int)+1) % (n:Int))).toNat)*2)=(o+(((((m_:Int)+1) % (n:Int))).toNat))*2+0 /\ (o+(((((m_:Int)+1) % (n:Int))).toNat))<N,((o*2+m_*2)+1)=(o+m_)*2+1 /\ (o+m_)<N,(o*2+m_*2)=(o+m_)*2+0 /\ (o+m_)<N,(((m_:Int)+1) % (n:Int))=((((((m_:Int)+1) % (n:Int))).toNat:Nat):Int) /\ ((((m_:Int)+1) % (n:Int))).toNat<n,(m_:Int)=((m_:Nat):Int) /\ m_<n]<|aae 8 (aaf [] (Hp:=[]) (Tp:=[]) [] [] (Hb (full.getD (o+m_) ⟨0,0⟩) (full.getD (o+(((((m_:Int)+1) % (n:Int))).toNat)) ⟨0,0⟩) _) ?_);rintro _ m10 rfl;refine ag [] [9] []<|aad<|ae 6 [] λ _=>aah (tz (full.getD (o+m_) ⟨0,0⟩) (full.getD (o+(((((m_:Int)+1) % (n:Int))).toNat)) ⟨0,0⟩) (⟨0,0⟩:V2) (m10+1) (m10+0) _ (av 0) (av 1))<|ae 3 [] λ _=>aal (tw (full.getD (o+m_) ⟨0,0⟩) (full.getD (o+(((((m_:Int)+1) % (n:Int))).toNat)) ⟨0,0⟩) (⟨0,0⟩:V2) <= 0) 25 (λ SW=>?_) λ SW=>?_
  ·refine ae 6 [.own 2] λ _=>RN.rr m_ [2,3] [] ?_
   try dsimp only
   exact⟨rfl,λ WE=>(WE m_ hm_).1 SW⟩
  ·refine ae 11 [.own 3] λ _=>aan (σ:=Nat) (λ k=>⟨[(2,vP (n1+1) 0),(3,vI (m_:Int)),(4,vI (((m_:Int)+1) % (n:Int))),(5,.func (.func 217) #[] #[vP (m10+1) 0,vP (m10+0) 0]),(26,vS b (o*2) n cap),(27,vI (n:Int)),(28,vI (k:Int))],[((m10+1),.lit [vI ((full.getD (o+(((((m_:Int)+1) % (n:Int))).toNat)) ⟨0,0⟩).x),vI ((full.getD (o+(((((m_:Int)+1) % (n:Int))).toNat)) ⟨0,0⟩).y)] 29 (0,0)),((m10+0),.lit [vI ((full.getD (o+m_) ⟨0,0⟩).x),vI ((full.getD (o+m_) ⟨0,0⟩).y)] 29 (0,0)),((n1+1),.lit [.bool false] 4 (0,0)),((n1+0),.lit [vS b (o*2) n cap] 83 (0,0))],[],k <= n /\ ∀t,t<k -> ¬ (t:Int)=(m_:Int) -> ¬ (t:Int)=xv n m_ -> ¬ tw (full.getD (o+m_) ⟨0,0⟩) (full.getD (o+(xv n m_).toNat) ⟨0,0⟩) (full.getD (o+t) ⟨0,0⟩) <= 0,n-k⟩) 0 [0,1,2,3] [] (⟨aa9 _,λ t ht=>absurd ht (Nat.not_lt_zero _)⟩) ?_;rintro k ⟨hkl,Sa⟩ Vu;refine ae 6 [] λ _=>aal ((k:Int)<(n:Int)) 29 (λ Ty=>?_) λ Ty=>?_
   ·refine aj 21 [.ix k,.rorow 1 (o+k) 0,.rorow 1 (o+k) 1,.own 0,.own 0] [((o*2+k*2)+1)=(o+k)*2+1 /\ (o+k)<N,(o*2+k*2)=(o+k)*2+0 /\ (o+k)<N,(k:Int)=((k:Nat):Int) /\ k<n] λ n15=>aam ((k:Int)=(m_:Int)) 36 (λ Sf=>?_) λ Sf=>?_
    ·refine aj 20 [.nw] [bx ((k:Int)+1)] λ _=>?_;refine Vu (k+1) [1,2,3,4] [] ?_
     try dsimp only
     refine⟨⟨by omega,λ t ht X5 Vo=>?_⟩,by omega⟩;rcases abX t k with h_|h_
     ·exact Sa t h_ X5 Vo
     ·obtain rfl:t=k:=by omega
      exact absurd Sf X5
    ·refine ae 5 [] λ _=>aam ((k:Int)=(((m_:Int)+1) % (n:Int))) 41 (λ h17=>?_) λ h17=>?_
     ·refine aj 15 [.nw] [bx ((k:Int)+1)] λ _=>?_;refine Vu (k+1) [1,2,3,4] [] ?_
      try dsimp only
      refine⟨⟨by omega,λ t ht X5 Vo=>?_⟩,by omega⟩;rcases abX t k with h_|h_
      ·exact Sa t h_ X5 Vo
      ·obtain rfl:t=k:=by omega
       exact absurd h17 Vo
     ·refine ae 2 (aab 2) λ _=>aah (tz (full.getD (o+m_) ⟨0,0⟩) (full.getD (o+(((((m_:Int)+1) % (n:Int))).toNat)) ⟨0,0⟩) (full.getD (o+k) ⟨0,0⟩) (m10+1) (m10+0) _ (av 1) (av 2))<|ae 4 [] λ _=>aal (tw (full.getD (o+m_) ⟨0,0⟩) (full.getD (o+(((((m_:Int)+1) % (n:Int))).toNat)) ⟨0,0⟩) (full.getD (o+k) ⟨0,0⟩) <= 0) 46 (λ h18=>?_) λ h18=>?_
      ·refine ae 6 [.own 3] λ _=>RN.rr m_ [3,4] [] ?_
       try dsimp only
       refine⟨rfl,λ WE=>?_⟩;exact(WE m_ hm_).2 k (by omega) Sf h17 h18
      ·refine aj 8 [.nw] [bx ((k:Int)+1)] λ _=>?_;refine Vu (k+1) [1,2,3,4] [] ?_
       try dsimp only
       refine⟨⟨by omega,λ t ht X5 Vo=>?_⟩,by omega⟩;rcases abX t k with h_|h_
       ·exact Sa t h_ X5 Vo
       ·obtain rfl:t=k:=by omega
        exact h18
   ·refine ae 6 [] λ _=>RN.rn (m_+1) [2,3] [] ?_
    try dsimp only
    refine⟨rfl,λ t ht=>?_⟩;rcases abX t m_ with h_|h_
    ·exact g_ t h_
    ·obtain rfl:t=m_:=by omega
     exact⟨SW,λ s_ RA=>Sa s_ (by omega)⟩
 ·rintro d19 m_  S6;obtain⟨rfl,g_⟩:=S6;refine ae 7 [.own 1] λ _=>RN.retM [d19] [0] [.own 0] [] [] (v:=.bool true) (H':=[]) ?_;exact⟨by rw[acr (show pD (λ k_=>full.getD (o+k_) ⟨0,0⟩) n from λ t ht=>g_ t (by rw[qZ];exact ht))],rfl⟩
 ·rintro d20 c_ m_ ⟨rfl,Sz⟩;refine RN.retM [d20] [0] [.own 0] [] [] (v:=.bool false) (H':=[]) ?_;exact⟨by rw[aco Sz],rfl⟩
def su(n:Int):Prop:=-32768 <= n /\ n <= 32768
instance (n:Int):Decidable (su n):=inferInstanceAs (Decidable (_ /\ _))
def mT(r:Int):Prop:=1 <= r /\ r <= 32768
instance (r:Int):Decidable (mT r):=inferInstanceAs (Decidable (_ /\ _))
def iq(r:Int)(f:Nat -> V2)(n:Nat):Prop:=(r=0 /\ 3 <= n /\ n <= 6) /\ (∀k,k<n -> su (f k).x /\ su (f k).y) /\ pD f n
instance (r:Int) (f:Nat -> V2) (n:Nat):Decidable (iq r f n):=inferInstanceAs (Decidable (_ /\ _ /\ _))
theorem pE{r:Int}{f g:Nat -> V2}{n:Nat}(h:∀k,k<n -> f k=g k)(hf:iq r f n):iq r g n :=
 ⟨hf.1,λ k hk=>by rw[<- h k hk];exact hf.2.1 k hk,xx h hf.2.2⟩
def lm(s:Shp):Prop:=if s.poly.length=0 then mT s.r else iq s.r (vat s.poly) s.poly.length
instance (s:Shp):Decidable (lm s):=inferInstanceAs (Decidable (if s.poly.length=0 then mT s.r else iq s.r (vat s.poly) s.poly.length))
theorem oL{r:Int}{A:Option Addr}{cap:Nat}:lm ⟨r,[],A,cap⟩↔mT r:=by
 show (if (0:Nat)=0 then mT r else _)↔_;rw[if_pos rfl]
def Ea(s:Shp):Int:=if lm s then 0 else 10
theorem xy(n:Int)  (F:HL):Sp Tryz.prog 140 #[vI n] [] F (λ u H'=>u=.bool (decide (su n)) /\ H'=[]):=by
 refine aat Tryz.func140 rfl mn (A:=[]) (Ts:=[]) rfl λ w0=>?_;refine ae 10 [] λ _=>aal ((-32768) <= n) 5 (λ h1=>?_) λ h1=>?_
 ·refine ae 6 [] λ _=>aap [] [] [] (v:=.bool (decide (n <= 32768))) (H':=[]) ?_;exact⟨by simp[su, *],rfl⟩
 ·refine ae 6 [] λ _=>aap [] [] [] (v:=.bool false) (H':=[]) ?_;exact⟨by simp[su, *],rfl⟩
theorem Ae(r:Int)(A:Option Addr)(cap:Nat)(F:HL):Sp Tryz.prog 108 #[.agg #[vI r,.slice A 0 cap]] [] F (λ u H'=>u=vI (Ea ⟨r,[],A,cap⟩) /\ H'=[]):=by
 refine aat Tryz.func108 rfl mn (A:=[]) (Ts:=[]) rfl λ w0=>?_;refine ae 10 (aab 2) λ n1=>aah (oA r A 0 cap _)<|ae 10 [.own 0] λ _=>aal (r<1) 10 (λ h2=>?_) λ h2=>?_
 ·refine ae 12 [] λ _=>aap [] [] [] (v:=vI 10) (H':=[]) ?_;exact⟨by rw[Ea,if_neg (λ h_=>by have R5:=oL.1 h_;unfold mT at R5;omega)],rfl⟩
 ·refine ae 6 [.own 0] λ _=>aal (r>32768) 14 (λ h3=>?_) λ h3=>?_
  ·refine ae 6 [] λ _=>aap [] [] [] (v:=vI 10) (H':=[]) ?_;exact⟨by rw[Ea,if_neg (λ h_=>by have R5:=oL.1 h_;unfold mT at R5;omega)],rfl⟩
  ·refine ae 8 [] λ _=>aap [] [] [] (v:=vI 0) (H':=[]) ?_;exact⟨by rw[Ea,if_pos (oL.2 ⟨by omega,by omega⟩)],rfl⟩
theorem Hf(r:Int)(full:List V2)(b o N n cap:Nat)(fz:Nat × Nat)(F:HL)(hb:(b,.rows 2 N (jL full) 29 fz)∈F)(ho:o+n <= N)(h1:1 <= n)(hnn:n <= 1000000):Sp Tryz.prog 108 #[.agg #[vI r,vS b (o*2) n cap]] [] F (λ u H'=>u=vI (if iq r (λ k_=>full.getD (o+k_) ⟨0,0⟩) n then 0 else 10) /\ H'=[]):=by
 refine aat Tryz.func108 rfl (mc hb mn) (A:=[]) (Ts:=[]) rfl λ w0=>?_;refine ae 10 (aab 2) λ n1=>aah (oA r (some ⟨b,o*2,none⟩) n cap _)<|ae 2 [] λ _=>db 6 (aco (show ¬ ((n:Int)=0) by omega))<|ae 10 [.own 0] λ _=>aam (r=0) 18 (λ h2=>?_) λ h2=>?_
 ·refine ae 6 [.own 0] λ _=>aal ((n:Int)<3) 24 (λ h3=>?_) λ h3=>?_
  ·refine ae 13 [] λ _=>aap [] [] [] (v:=vI 10) (H':=[]) ?_;exact⟨by rw[if_neg (show ¬ iq r (λ k_=>full.getD (o+k_) ⟨0,0⟩) n from λ h_=>by have:=h_.1;omega)],rfl⟩
  ·refine ae 7 [.own 0] λ _=>aal ((n:Int)>6) 29 (λ h4=>?_) λ h4=>?_
   ·refine ae 6 [] λ _=>aap [] [] [] (v:=vI 10) (H':=[]) ?_;exact⟨by rw[if_neg (show ¬ iq r (λ k_=>full.getD (o+k_) ⟨0,0⟩) n from λ h_=>by have:=h_.1;omega)],rfl⟩
   ·refine ae 13 [.own 0] λ _=>aan (σ:=Nat) (λ k=>⟨[(1,vP (n1+0) 0),(31,vS b (o*2) n cap),(32,vI (n:Int)),(33,vI (k:Int))],[((n1+0),.lit [vI r,vS b (o*2) n cap] 85 (0,0))],[],k <= n /\ ∀t,t<k -> su (full.getD (o+t) (⟨0,0⟩:V2)).x /\ su (full.getD (o+t) (⟨0,0⟩:V2)).y,n-k⟩) 0 [0] [] (⟨aa9 _,λ t ht=>absurd ht (Nat.not_lt_zero _)⟩) ?_;rintro k ⟨hkl,Sa⟩ WK;refine ae 6 [] λ _=>aal ((k:Int)<(n:Int)) 34 (λ h7=>?_) λ h7=>?_
    ·refine aj 17 [.ix k,.rorow 0 (o+k) 0,.rorow 0 (o+k) 1,.own 0,.own 0,.own 0] [((o*2+k*2)+1)=(o+k)*2+1 /\ (o+k)<N,(o*2+k*2)=(o+k)*2+0 /\ (o+k)<N,(k:Int)=((k:Nat):Int) /\ k<n] λ n8=>aah (xy ((full.getD (o+k) ⟨0,0⟩).x)  _)<|ae 2 [] λ _=>aam (su ((full.getD (o+k) ⟨0,0⟩).x)) 41 (λ h9=>?_) λ h9=>?_
     ·refine ae 2 [.own 0] λ _=>aah (xy ((full.getD (o+k) ⟨0,0⟩).y)  _)<|ae 4 [] λ _=>aam (su ((full.getD (o+k) ⟨0,0⟩).y)) 46 (λ TA=>?_) λ TA=>?_
      ·refine aj 8 [.nw] [bx ((k:Int)+1)] λ _=>?_;refine WK (k+1) [1] [] ?_
       try dsimp only
       refine⟨⟨by omega,λ t ht=>?_⟩,by omega⟩;rcases abX t k with h_|h_
       ·exact Sa t h_
       ·obtain rfl:t=k:=by omega
        exact⟨h9,TA⟩
      ·refine ae 6 [] λ _=>aap [] [] [] (v:=vI 10) (H':=[]) ?_;exact⟨by rw[if_neg (show ¬ iq r (λ k_=>full.getD (o+k_) ⟨0,0⟩) n from λ h_=>TA (h_.2.1 k (by omega)).2)],rfl⟩
     ·refine ae 13 [] λ _=>aap [] [] [] (v:=vI 10) (H':=[]) ?_;exact⟨by rw[if_neg (show ¬ iq r (λ k_=>full.getD (o+k_) ⟨0,0⟩) n from λ h_=>h9 (h_.2.1 k (by omega)).1)],rfl⟩
    ·refine ae 11 [.own 0] λ _=>aah (He full b o N n cap fz _ (az hb) ho hnn)<|ae 3 [] λ _=>aam (pD (λ k_=>full.getD (o+k_) ⟨0,0⟩) n) 51 (λ SW=>?_) λ SW=>?_
     ·refine ae 8 [] λ _=>aap [] [] [] (v:=vI 0) (H':=[]) ?_;exact⟨by rw[if_pos (show iq r (λ k_=>full.getD (o+k_) ⟨0,0⟩) n from ⟨⟨by omega,by omega,by omega⟩,λ t ht=>Sa t (by omega),SW⟩)],rfl⟩
     ·refine ae 6 [] λ _=>aap [] [] [] (v:=vI 10) (H':=[]) ?_;exact⟨by rw[if_neg (show ¬ iq r (λ k_=>full.getD (o+k_) ⟨0,0⟩) n from λ h_=>SW h_.2.2)],rfl⟩
 ·refine ae 19 [] λ _=>aap [] [] [] (v:=vI 10) (H':=[]) ?_;exact⟨by rw[if_neg (show ¬ iq r (λ k_=>full.getD (o+k_) ⟨0,0⟩) n from λ h_=>by have:=h_.1;omega)],rfl⟩
theorem KG(s:Shp)(F:HL)(h:RowL mj 29 F s.A s.poly.length s.poly)(hn:s.poly.length <= 1000000):Sp Tryz.prog 108 #[On s] [] F (λ u H'=>u=vI (Ea s) /\ H'=[]):=by
 obtain⟨r,l,A,cap⟩:=s;simp only at h hn;rcases Nat.eq_zero_or_pos l.length with h0|h0
 ·obtain rfl:l=[]:=abR h0;exact Ae r A cap F
 ·generalize hm:l.length=m at h h0 hn;cases h with
  | zero=>omega
  | rows q o N full fz n xs hq ho W5 hx =>
   have:=Hf r full q o N m cap fz F hq ho h0 hn;have e:Ea ⟨r,l,some ⟨q,o*2,none⟩,cap⟩=if iq r (λ k_=>full.getD (o+k_) ⟨0,0⟩) m then 0 else 10:=by
    have e1:lm ⟨r,l,some ⟨q,o*2,none⟩,cap⟩↔iq r (λ k_=>full.getD (o+k_) ⟨0,0⟩) m:=by
     unfold lm;simp only;rw[if_neg (by omega),hm];exact⟨pE λ k hk=>(hx k hk).symm,pE λ k hk=>hx k hk⟩
    unfold Ea
    by_cases hc:iq r (λ k_=>full.getD (o+k_) ⟨0,0⟩) m
    ·rw[if_pos hc,if_pos (e1.2 hc)]
    ·rw[if_neg hc,if_neg λ h=>hc (e1.1 h)]
   show Sp _ _ #[.agg #[vI r,.slice (some ⟨q,o*2,none⟩) l.length cap]] _ _ (λ u H'=>u=vI (Ea ⟨r,l,some ⟨q,o*2,none⟩,cap⟩) /\ H'=[]);rw[e,hm];exact this
structure SetSh(F:HL)(S:Setup):Prop where
 nb:S.nb <= 1000000
 blk:(S.bb,.rows 9 S.bR (mf S.bods) 90 (0,0))∈F
 room:S.bo+S.nb <= S.bR
 pol:∀k,k<S.nb -> RowL mj 29 F (S.body k).sh.A (S.body k).sh.poly.length (S.body k).sh.poly /\ (S.body k).sh.poly.length <= 1000000
theorem ShIn.rowL{F:HL}{s:Shp}(h:ShIn F s):RowL mj 29 F s.A s.poly.length s.poly /\ s.poly.length <= 1000000:=by
 cases h with
 | circle r A cap=>exact⟨.zero _,aa9 _⟩
 | poly r l b cap h h3 h4 h5=>exact⟨RowL.whole (e:=mj) h h4,h5⟩
def Af(S:Setup)(rs:List Bx)(ds:List Dr):Prop:=jR S /\ gD S.box /\ mA S rs ds
instance (S:Setup) (rs:List Bx) (ds:List Dr):Decidable (Af S rs ds):=inferInstanceAs (Decidable (_ /\ _))
def ln(S:Setup)(rs:List Bx)(ds:List Dr):Int:=if ∀k,k<S.nb -> lm (S.body k).sh then (if Af S rs ds then (if ∀k,k<S.nb -> fV (S.body k) S.box then 0 else 11) else 11) else 10
theorem Nl{s:Shp}(h:Ea s=0):lm s:=by
 unfold Ea at h;split at h
 ·assumption
 ·omega
theorem Nm{s:Shp}(h:¬ Ea s=0):¬ lm s:=λ hc=>h (by rw[Ea,if_pos hc])
theorem KH(S:Setup)(rs:List Bx)(ds:List Dr)(F:HL)(hS:SetSh F S)(hM:MapIn F S rs ds):Sp Tryz.prog 85 #[(Setup.v S)] [] F (λ u H'=>u=vI (ln S rs ds) /\ H'=[]):=by
 have hn:=hS.nb;have hr:=hS.room;refine aat Tryz.func85 rfl (mc hS.blk mn) (A:=[]) (Ts:=[]) rfl λ w0=>?_;refine ae 16 [.own 0] λ n1=>aan (σ:=Nat) (λ k=>⟨[(1,vP (n1+0) 0),(8,vS S.bb (S.bo*9) S.nb S.bc),(9,vI (S.nb:Int)),(10,vI (k:Int))],[((n1+0),.lit (Setup.l S) 31 (0,0))],[],k <= S.nb /\ ∀t,t<k -> lm (S.body t).sh,S.nb-k⟩) 0 [0] [] (⟨aa9 _,λ t ht=>absurd ht (Nat.not_lt_zero _)⟩) ?_;rintro k ⟨hkl,Vf⟩ RF;refine ae 6 [] λ _=>aal ((k:Int)<(S.nb:Int)) 11 (λ h4=>?_) λ h4=>?_
 ·refine aj 17 ([.ix k,.rorow 0 (S.bo+k) 0,.rorow 0 (S.bo+k) 1,.rorow 0 (S.bo+k) 2,.rorow 0 (S.bo+k) 3,.rorow 0 (S.bo+k) 4,.rorow 0 (S.bo+k) 5,.rorow 0 (S.bo+k) 6,.rorow 0 (S.bo+k) 7,.rorow 0 (S.bo+k) 8]++ow 0 11) [((S.bo*9+k*9)+8)=(S.bo+k)*9+8 /\ (S.bo+k)<S.bR,((S.bo*9+k*9)+7)=(S.bo+k)*9+7 /\ (S.bo+k)<S.bR,((S.bo*9+k*9)+6)=(S.bo+k)*9+6 /\ (S.bo+k)<S.bR,((S.bo*9+k*9)+5)=(S.bo+k)*9+5 /\ (S.bo+k)<S.bR,((S.bo*9+k*9)+4)=(S.bo+k)*9+4 /\ (S.bo+k)<S.bR,((S.bo*9+k*9)+3)=(S.bo+k)*9+3 /\ (S.bo+k)<S.bR,((S.bo*9+k*9)+2)=(S.bo+k)*9+2 /\ (S.bo+k)<S.bR,((S.bo*9+k*9)+1)=(S.bo+k)*9+1 /\ (S.bo+k)<S.bR,(S.bo*9+k*9)=(S.bo+k)*9+0 /\ (S.bo+k)<S.bR,(k:Int)=((k:Nat):Int) /\ k<S.nb] λ n5=>aah (KG ((S.bods.getD (S.bo+k) dB).sh) _ (hS.pol k (by omega)).1.up (hS.pol k (by omega)).2)<|ae 3 [] λ _=>aam (Ea ((S.bods.getD (S.bo+k) dB).sh)=0) 17 (λ h6=>?_) λ h6=>?_
  ·refine aj 8 [.nw] [bx ((k:Int)+1)] λ _=>?_;refine RF (k+1) [1] [] ?_
   try dsimp only
   refine⟨⟨by omega,λ t ht=>?_⟩,by omega⟩;rcases abX t k with h_|h_
   ·exact Vf t h_
   ·obtain rfl:t=k:=by omega
    exact Nl h6
  ·refine ae 6 [] λ _=>aap [] [] [] (v:=vI 10) (H':=[]) ?_;exact⟨by rw[ln,if_neg (show ¬ ∀k,k<S.nb -> lm (S.body k).sh from λ h_=>Nm h6 (h_ k (by omega)))],rfl⟩
 ·refine ae 10 (ow 0 16) λ _=>aah (G8 S _)<|ae 2 [] λ _=>aam (jR S) 22 (λ h7=>?_) λ h7=>?_
  ·refine ae 2 (aab 4) λ _=>aah (qX S.box  _)<|ae 3 [] λ _=>aam (gD S.box) 28 (λ h8=>?_) λ h8=>?_
   ·refine ae 1 (ow 0 16) λ _=>aah (G9 S rs ds _ hM.up)<|ae 4 [] λ _=>aam (mA S rs ds) 32 (λ h9=>?_) λ h9=>?_
    ·refine ae 13 [.own 0] λ _=>aan (σ:=Nat) (λ j=>⟨[(1,vP (n1+0) 0),(34,vS S.bb (S.bo*9) S.nb S.bc),(35,vI (S.nb:Int)),(36,vI (j:Int))],[((n1+0),.lit (Setup.l S) 31 (0,0))],[],j <= S.nb /\ ∀t,t<j -> fV (S.body t) S.box,S.nb-j⟩) 0 [0] [] (⟨aa9 _,λ t ht=>absurd ht (Nat.not_lt_zero _)⟩) ?_;rintro j ⟨Ub,hvb⟩ Yg;refine ae 6 [] λ _=>aal ((j:Int)<(S.nb:Int)) 37 (λ Sv=>?_) λ Sv=>?_
     ·refine aj 18 ([.ix j,.rorow 0 (S.bo+j) 0,.rorow 0 (S.bo+j) 1,.rorow 0 (S.bo+j) 2,.rorow 0 (S.bo+j) 3,.rorow 0 (S.bo+j) 4,.rorow 0 (S.bo+j) 5,.rorow 0 (S.bo+j) 6,.rorow 0 (S.bo+j) 7,.rorow 0 (S.bo+j) 8]++ow 0 18++[.own 1,.own 1,.own 1,.own 1]) [((S.bo*9+j*9)+8)=(S.bo+j)*9+8 /\ (S.bo+j)<S.bR,((S.bo*9+j*9)+7)=(S.bo+j)*9+7 /\ (S.bo+j)<S.bR,((S.bo*9+j*9)+6)=(S.bo+j)*9+6 /\ (S.bo+j)<S.bR,((S.bo*9+j*9)+5)=(S.bo+j)*9+5 /\ (S.bo+j)<S.bR,((S.bo*9+j*9)+4)=(S.bo+j)*9+4 /\ (S.bo+j)<S.bR,((S.bo*9+j*9)+3)=(S.bo+j)*9+3 /\ (S.bo+j)<S.bR,((S.bo*9+j*9)+2)=(S.bo+j)*9+2 /\ (S.bo+j)<S.bR,((S.bo*9+j*9)+1)=(S.bo+j)*9+1 /\ (S.bo+j)<S.bR,(S.bo*9+j*9)=(S.bo+j)*9+0 /\ (S.bo+j)<S.bR,(j:Int)=((j:Nat):Int) /\ j<S.nb] λ n13=>aah (D8 (S.bods.getD (S.bo+j) dB) S.box _)<|ae 3 [] λ _=>aam (fV (S.bods.getD (S.bo+j) dB) S.box) 44 (λ Ty=>?_) λ Ty=>?_
      ·refine aj 8 [.nw] [bx ((j:Int)+1)] λ _=>?_;refine Yg (j+1) [1] [] ?_
       try dsimp only
       refine⟨⟨by omega,λ t ht=>?_⟩,by omega⟩;rcases abX t j with h_|h_
       ·exact hvb t h_
       ·obtain rfl:t=j:=by omega
        exact Ty
      ·refine ae 6 [] λ _=>aap [] [] [] (v:=vI 11) (H':=[]) ?_;exact⟨by rw[ln,if_pos (show ∀k,k<S.nb -> lm (S.body k).sh from λ t ht=>Vf t (by omega)),if_pos (show Af S rs ds from ⟨h7,h8,h9⟩),if_neg (show ¬ ∀k,k<S.nb -> fV (S.body k) S.box from λ h_=>Ty (h_ j (by omega)))],rfl⟩
     ·refine ae 11 [] λ _=>aap [] [] [] (v:=vI 0) (H':=[]) ?_;exact⟨by rw[ln,if_pos (show ∀k,k<S.nb -> lm (S.body k).sh from λ t ht=>Vf t (by omega)),if_pos (show Af S rs ds from ⟨h7,h8,h9⟩),if_pos (show ∀k,k<S.nb -> fV (S.body k) S.box from λ t ht=>hvb t (by omega))],rfl⟩
    ·refine ae 6 [] λ _=>aap [] [] [] (v:=vI 11) (H':=[]) ?_;exact⟨by rw[ln,if_pos (show ∀k,k<S.nb -> lm (S.body k).sh from λ t ht=>Vf t (by omega)),if_neg (show ¬ Af S rs ds from λ h_=>h9 h_.2.2)],rfl⟩
   ·refine ae 12 [] λ _=>aap [] [] [] (v:=vI 11) (H':=[]) ?_;exact⟨by rw[ln,if_pos (show ∀k,k<S.nb -> lm (S.body k).sh from λ t ht=>Vf t (by omega)),if_neg (show ¬ Af S rs ds from λ h_=>h8 h_.2.1)],rfl⟩
  ·refine ae 18 [] λ _=>aap [] [] [] (v:=vI 11) (H':=[]) ?_;exact⟨by rw[ln,if_pos (show ∀k,k<S.nb -> lm (S.body k).sh from λ t ht=>Vf t (by omega)),if_neg (show ¬ Af S rs ds from λ h_=>h7 h_.1)],rfl⟩
def lq(S:Setup):List Bod:=(List.range S.nb).map S.body
theorem jS(S:Setup):(lq S).length=S.nb:=by simp[lq]
theorem lO{S:Setup}{k:Nat}(h:k<S.nb):(lq S).getD k dB=S.body k:=by simp[lq,h]
theorem Eb{F:HL}{S:Setup}(hS:SetSh F S):RowL kT 90 F (some ⟨S.bb,S.bo*9,none⟩) S.nb (lq S) :=
 .rows S.bb S.bo S.bR S.bods (0,0) S.nb (lq S) hS.blk hS.room (jS S) (λ k hk=>(lO hk).symm)
theorem ClS.open{α:Type}{e:Enc α}{T:TypeId}{xs:List α}{A:Option Addr}{c:Nat}{Hl:HL}(h:ClS e T xs A c Hl)(hx:0<xs.length):∃b,A=some ⟨b,0,none⟩ /\ Hl=[(b,.rows e.w c (aQ e xs) T (0,0))] /\ xs.length <= c:=by
 obtain⟨A0,h⟩:=h;rcases h with ⟨rfl,_⟩|⟨b,h1,h2,h3⟩
 ·simp at hx
 ·exact⟨b,h1,h2,h3⟩
structure SetCl(F:HL)(S:Setup):Prop extends SetN S where
 blk:(S.bb,.rows 9 S.bR (mf S.bods) 90 (0,0))∈F
 room:S.bo+S.nb <= S.bR
 shp:∀k,k<S.nb -> (RowL mj 29 F (S.body k).sh.A (S.body k).sh.poly.length (S.body k).sh.poly /\ (S.body k).sh.poly.length <= 1000000) /\ ((S.body k).sh.poly=[] \/ 3 <= (S.body k).sh.poly.length)
theorem SetIn.cl{F:HL}{S:Setup}(h:SetIn F S):SetCl F S:=⟨h.toSetN,h.blk,h.room,λ k hk=>⟨(h.shp k hk).rowL,by
 have h1:=h.shp k hk;generalize (S.body k).sh=s at h1;cases h1 with
 | circle r A cap=>exact .inl rfl
 | poly r l b cap h h3 h4 h5=>exact .inr h3⟩⟩
theorem SetCl.up{F X:HL}{S:Setup}(h:SetCl F S):SetCl (X++F) S:=⟨h.toSetN,aav _ h.blk,h.room,λ k hk=>⟨⟨(h.shp k hk).1.1.up,(h.shp k hk).1.2⟩,(h.shp k hk).2⟩⟩
theorem SetCl.toSh{F:HL}{S:Setup}(h:SetCl F S):SetSh F S:=⟨h.nb,h.blk,h.room,λ k hk=>(h.shp k hk).1⟩
theorem Ec{s:Shp}(h:s.poly=[] \/ 3 <= s.poly.length)(hl:s.poly.length <= 1000000){A:Option Addr}{c:Nat}{T:HL}(hc:ClS mj 29 s.poly A c T):ShH ⟨s.r,s.poly,A,c⟩ T:=by
 intro F' hF;rcases h with h|h
 ·rw[h];exact .circle _ _ _
 ·obtain⟨b2,rfl,rfl,h6⟩:=hc.open (by omega);exact .poly _ _ _ _ (hF _ (List.mem_singleton.2 rfl)) h h6 hl
def Bod.at(b:Bod)(A:Option Addr)(c:Nat):Bod:=⟨⟨b.sh.r,b.sh.poly,A,c⟩,b.mot,b.a,b.b⟩
theorem fG{α:Type}{l:List α}{i:Nat}{x d:α}(h:i<l.length):(l.set i x).getD i d=x:=by simp[h]
theorem fp{α:Type}{l:List α}{i k:Nat}{x d:α}(h:¬ i=k):(l.set i x).getD k d=l.getD k d:=by simp[List.getElem?_set,h]
theorem KJ{l:List Bod}{i:Nat}(h:i<l.length)(A:Option Addr)(c:Nat):dD (mf l) i 1 (.slice A (l.getD i dB).sh.poly.length c)=mf (l.set i ((l.getD i dB).at A c)):=by
 funext j k;unfold dD
 by_cases h1:j=i
 ·subst h1;show _=kT.cell ((l.set j ((l.getD j dB).at A c)).getD j dB) k;rw[fG h]
  by_cases h2:k=1
  ·subst h2;simp;rfl
  ·rw[if_neg (by simp[h2])];show kT.cell (l.getD j dB) k=_;rcases k with _|_|k
   ·rfl
   ·exact absurd rfl h2
   ·rcases k with _|_|_|_|_|_|k <;> rfl
 ·rw[if_neg (by simp[h1])];show kT.cell (l.getD j dB) k=kT.cell ((l.set i _).getD j dB) k;rw[fp (λ e=>h1 e.symm)]
structure SetEq(S S':Setup):Prop where
 nums:S'.players=S.players /\ S'.nb=S.nb /\ S'.box=S.box /\ S'.rn=S.rn /\ S'.dn=S.dn /\ S'.fog=S.fog /\ S'.g=S.g /\ S'.push=S.push /\ S'.drag=S.drag /\ S'.rest=S.rest /\ S'.rounds=S.rounds /\ S'.fuel=S.fuel
 bod:∀k,k<S.nb -> ∃A c,S'.body k=(S.body k).at A c
 whole:S'.bo=0 /\ S'.bods.length=S.nb
def tC(S:Setup)(rs:List Bx)(ds:List Dr)(U:HL):Prop:=∀F,(∀y∈U,y∈F) -> SetIn F S /\ MapIn F S rs ds
theorem Ag(S:Setup)(rs:List Bx)(ds:List Dr)(F:HL)(hS:SetCl F S)(hM:MapIn F S rs ds)(h1:1 <= S.nb)(RV:S.rn <= 1000000)(UM:S.dn <= 1000000):Sp Tryz.prog 86 #[Setup.v S] (ap [] []) F (λ u H'=>∃x:Setup × HL,H'=ap [] [x.2] /\ (u=Setup.v x.1 /\ SetEq S x.1 /\ tC x.1 rs ds x.2)):=by
 have hp:=hS.pl;have hn:=hS.nb;have hr:=hS.room;refine aat Tryz.func86 rfl (mc hS.blk mn) (A:=[]) (Ts:=[]) rfl λ w0=>?_;refine ae 10 [.own 1] λ n1=>aai (Hp:=[]) (Tp:=[]) [] [] (qP (some ⟨S.bb,S.bo*9,none⟩) S.nb S.bc (lq S) _ (RowL.src zC (by decide) (Eb hS.toSh).up) (by omega)) ?_;rintro _ ⟨A2,c3,T4⟩ ⟨rfl,hc5⟩;dsimp only at hc5;refine ae 7 [.own 1] λ _=>?_;obtain⟨bb,rfl,rfl,TQ⟩:=hc5.open (by rw[jS];omega);have hcap:S.nb <= c3:=by rw[jS] at TQ;exact TQ
 refine sT 0 (x:=(bb,.rows 9 c3 (mf (lq S)) 90 (0,0)))<|ae 7 [.own 2] λ _=>aao<|aan (σ:=Nat × List Bod × HL) (λ ⟨i,bods,U_⟩=>⟨[(1,vP (n1+0) 0),(2,vP (n1+1) 0),(10,vI (S.nb:Int)),(11,vI (i:Int))],[(bb,.rows 9 c3 (mf bods) 90 (0,0)),((n1+1),.lit [vI 0,.slice none 0 0,vI 0,vI 0,vI 0,vI 0,.slice none 0 0,.slice none 0 0,vI 0,vI 0,vI 0,vI 0,vI 0,vI 0,vI 0,vI 0] 31 (0,0)),((n1+0),.lit [vI S.players,vS bb 0 S.nb c3,vI S.box.x0,vI S.box.y0,vI S.box.x1,vI S.box.y1,.slice S.rA S.rn S.rc,.slice S.dA S.dn S.dc,vI S.fog,vI S.g.x,vI S.g.y,vI S.push,vI S.drag,vI S.rest,vI S.rounds,vI S.fuel] 31 (0,0))],[U_],i <= S.nb /\ bods.length=S.nb /\ (∀k,k<S.nb -> ∃A c,bods.getD k dB=(S.body k).at A c) /\ (∀k,k<i -> ShH (bods.getD k dB).sh U_) /\ ∀k,i <= k -> k<S.nb -> bods.getD k dB=S.body k,S.nb-i⟩) (0,lq S,[]) [0,1,2] [0] (⟨aa9 _,jS S,λ k hk=>⟨_,_,lO hk⟩,λ k hk=>absurd hk (Nat.not_lt_zero _),λ k _ hk=>lO hk⟩) ?_;rintro⟨i,bods,U_⟩ ⟨TN,Ss,XO,VD,YS⟩ XE;refine ae 6 [] λ _=>aal ((i:Int)<(S.nb:Int)) 12 (λ h8=>?_) λ h8=>?_
 ·refine ae 7 [] λ _=>?_;have WU:(RowL mj 29 F (bods.getD i dB).sh.A (bods.getD i dB).sh.poly.length (bods.getD i dB).sh.poly /\ (bods.getD i dB).sh.poly.length <= 1000000) /\ ((bods.getD i dB).sh.poly=[] \/ 3 <= (bods.getD i dB).sh.poly.length):=by rw[YS i (aa0 _) (by omega)];exact hS.shp i (by omega)
  have VF:=WU.1.1;have aeu:(bods.getD i dB).sh.poly.length <= 100000000:=by have:=WU.1.2;omega
  refine ae 4 [] λ _=>aak [14] []<|aD [] [0,2,3,5,1,4,6,7,8,9] [.own 2,.own 2,.ix i,.row 0 i 1] [((0+i*9)+1)=i*9+1 /\ i<c3,(i:Int)=((i:Nat):Int) /\ i<S.nb]<|aae 10 (aaf [] (Hp:=[]) (Tp:=[]) [] [] (so ((bods.getD i dB).sh.A) ((bods.getD i dB).sh.poly.length) ((bods.getD i dB).sh.cap) ((bods.getD i dB).sh.poly) _ (RowL.src G5 (by decide) VF.up) aeu) ?_);rintro _ ⟨A9,X6,Rm⟩ ⟨rfl,abK⟩;dsimp only at abK;refine aD [] [11,12,13] [.ix i] [(i:Int)=((i:Nat):Int) /\ i<S.nb]<|aae 14 (fS [] [.row 0 i 1] [((0+i*9)+1)=i*9+1 /\ i<c3] λ _=>?_);refine aad<|aj 6 [.nw] [bx ((i:Int)+1)] λ _=>RN.bv 0 (congrArg (λ v_=>(.rows 9 c3 v_ 90 (0,0):Blk)) (show (dD (mf bods) i 1 (.slice A9 ((bods.getD i dB).sh.poly.length) X6))=(mf (bods.set i ((bods.getD i dB).at A9 X6))) from (KJ (by omega) A9 X6)))<|sS [1,0]<|wo ?_;refine XE (i+1,(bods.set i ((bods.getD i dB).at A9 X6)),U_++Rm) [0,1,2] [0] ?_
  try dsimp only
  refine⟨⟨by omega,by rw[List.length_set];exact Ss,λ t ht=>?_,λ t ht=>?_,λ t X4 R5=>?_⟩,by omega⟩
  ·rcases Decidable.em (i=t) with rfl|h_
   ·rw[fG (by omega),YS i (aa0 _) ht];exact⟨_,_,rfl⟩
   ·rw[fp h_];exact XO t ht
  ·rcases Decidable.em (i=t) with rfl|h_
   ·rw[fG (by omega)];exact ShH.right (Ec WU.2 WU.1.2 abK)
   ·rw[fp h_];exact(VD t (by omega)).left
  ·rw[fp (by omega)];exact YS t (by omega) R5
 ·refine ae 10 [.own 2] λ _=>aai (Hp:=[]) (Tp:=[]) [] [] (sr S.rA S.rn S.rc rs _ (RowL.src Mb (by decide) hM.rooms.up) (by omega)) ?_;rintro _ ⟨A13,c14,Sy⟩ ⟨rfl,abJ⟩;dsimp only at abJ;refine ae 8 [.own 2,.own 2] λ _=>aai (Hp:=[]) (Tp:=[]) [] [] (qU S.dA S.dn S.dc ds _ (RowL.src Mc (by decide) hM.doors.up) (by omega)) ?_;rintro _ ⟨A17,ZY,Ve⟩ ⟨rfl,abI⟩;dsimp only at abI;refine ae 10 (ow 2 17++ow 1 16) λ _=>aap (ow 1 16) [0] [0,1,2] (v:=.agg #[vI S.players,vS bb 0 S.nb c3,vI S.box.x0,vI S.box.y0,vI S.box.x1,vI S.box.y1,.slice A13 S.rn c14,.slice A17 S.dn ZY,vI S.fog,vI S.g.x,vI S.g.y,vI S.push,vI S.drag,vI S.rest,vI S.rounds,vI S.fuel]) (H':=(ap [(bb,.rows 9 c3 (mf bods) 90 (0,0))] [Ve,Sy,U_])) ?_;have ei:i=S.nb:=by omega
  subst ei;have V5:∀k,bods.getD (0+k) dB=bods.getD k dB:=λ k=>by rw[Nat.zero_add]
  refine⟨((⟨S.players,bb,0,S.nb,c3,c3,bods,S.box,A13,S.rn,c14,A17,S.dn,ZY,S.fog,S.g,S.push,S.drag,S.rest,S.rounds,S.fuel⟩:Setup),[(bb,.rows 9 c3 (mf bods) 90 (0,0))]++(Ve++Sy++U_)),(by simp[ap]),rfl,⟨⟨rfl,rfl,rfl,rfl,rfl,rfl,rfl,rfl,rfl,rfl,rfl,rfl⟩,λ k hk=>?_,rfl,Ss⟩,λ F2 hF=>⟨⟨⟨hp,by omega⟩,hF _ (by simp),(by show 0+S.nb <= c3;omega),λ k hk=>?_⟩,?_,?_⟩⟩
  ·obtain⟨A,c,h⟩:=XO k hk;exact⟨A,c,by show bods.getD (0+k) dB=_;rw[V5];exact h⟩
  ·show ShIn F2 (bods.getD (0+k) dB).sh;rw[V5];exact VD k hk F2 λ x hx=>hF x (by simp[hx])
  ·have h_:=abJ.rowL (F:=F2) λ x hx=>hF x (by simp[hx]);rw[hM.rooms.len] at h_;exact h_
  ·have h_:=abI.rowL (F:=F2) λ x hx=>hF x (by simp[hx]);rw[hM.doors.len] at h_;exact h_
theorem Ah{S:Setup}(h:SetN S){i:Nat}(hi:i<S.nb):dD (dD (dD (dD (dD (dD (aU (br S i)) ((af S i).toNat+0) 0 (vI (S.body i).mot.px)) ((af S i).toNat+1) 0 (vI (S.body i).mot.py)) ((af S i).toNat+2) 0 (vI (S.body i).mot.vx)) ((af S i).toNat+3) 0 (vI (S.body i).mot.vy)) ((af S i).toNat+4) 0 (vI (S.body i).a)) ((af S i).toNat+5) 0 (vI (S.body i).b)=aU (br S (i+1)):=by
 have hb:=oH h hi;rw[<- D6 h hi];rw[show (af S i+1).toNat=(af S i).toNat+1 by omega,show (af S i+2).toNat=(af S i).toNat+2 by omega,show (af S i+3).toNat=(af S i).toNat+3 by omega,show (af S i+4).toNat=(af S i).toNat+4 by omega,show (af S i+5).toNat=(af S i).toNat+5 by omega];rfl
theorem Ed(S:Setup)(F:HL)(hS:SetCl F S):Sp Tryz.prog 88 #[Setup.v S] (ap [] []) F (λ u H'=>∃q,H'=ap [(q,.rows 1 (sizeOf S).toNat (aU (br S S.nb)) 3 (0,0))] [] /\ u=vS q 0 (sizeOf S).toNat (sizeOf S).toNat):=by
 have hp:=hS.pl;have hn:=hS.nb;have hr:=hS.room;have hz:=D5 hS.toSetN;refine aat Tryz.func88 rfl (mc hS.blk mn) (A:=[]) (Ts:=[]) rfl λ w0=>?_;refine ae 13 [.own 0] λ n1=>aal (S.players<0) 10 (λ h2=>?_) λ h2=>?_
 ·(exfalso;omega)
 ·refine ae 6 [.own 0] λ _=>aal (S.players>1048576) 14 (λ h3=>?_) λ h3=>?_
  ·(exfalso;omega)
  ·refine ae 6 (ow 0 16) λ _=>aah (De S _ hS.toSetN)<|aj 14 [.mk ((sizeOf S).toNat) ((sizeOf S).toNat),.own 1] [sizeOf S=(((sizeOf S).toNat:Nat):Int) /\ sizeOf S=(((sizeOf S).toNat:Nat):Int) /\ (sizeOf S).toNat <= (sizeOf S).toNat /\ 8*((sizeOf S).toNat) <= 140737488355328 /\ 1=1 /\ (sizeOf S).toNat <= 9223372036854775807] λ n4=>RN.bv 0 (congrArg (λ v_=>(.rows 1 ((sizeOf S).toNat) v_ 3 (0,0):Blk)) (show (uv [vI 0])=(aU (br S 0)) from (by rw[ti (sizeOf S).toNat] <;> rfl)))<|aan (σ:=Nat) (λ i=>⟨[(1,vP (n1+0) 0),(3,vS (n4+0) 0 ((sizeOf S).toNat) ((sizeOf S).toNat)),(19,vS S.bb (S.bo*9) S.nb S.bc),(20,vI (S.nb:Int)),(21,vI (i:Int))],[((n4+0),.rows 1 ((sizeOf S).toNat) (aU (br S i)) 3 (0,0)),((n1+0),.lit (Setup.l S) 31 (0,0))],[],i <= S.nb,S.nb-i⟩) 0 [0,1] [] (aa9 _) ?_;rintro i hI5 WK;refine ae 6 [] λ _=>aal ((i:Int)<(S.nb:Int)) 22 (λ h7=>?_) λ h7=>?_
   ·have hbi:=oH hS.toSetN (i:=i) (by omega);refine aj 20 ([.ix i,.rorow 0 (S.bo+i) 0,.rorow 0 (S.bo+i) 1,.rorow 0 (S.bo+i) 2,.rorow 0 (S.bo+i) 3,.rorow 0 (S.bo+i) 4,.rorow 0 (S.bo+i) 5,.rorow 0 (S.bo+i) 6,.rorow 0 (S.bo+i) 7,.rorow 0 (S.bo+i) 8]++ow 0 9++ow 2 16) [((S.bo*9+i*9)+8)=(S.bo+i)*9+8 /\ (S.bo+i)<S.bR,((S.bo*9+i*9)+7)=(S.bo+i)*9+7 /\ (S.bo+i)<S.bR,((S.bo*9+i*9)+6)=(S.bo+i)*9+6 /\ (S.bo+i)<S.bR,((S.bo*9+i*9)+5)=(S.bo+i)*9+5 /\ (S.bo+i)<S.bR,((S.bo*9+i*9)+4)=(S.bo+i)*9+4 /\ (S.bo+i)<S.bR,((S.bo*9+i*9)+3)=(S.bo+i)*9+3 /\ (S.bo+i)<S.bR,((S.bo*9+i*9)+2)=(S.bo+i)*9+2 /\ (S.bo+i)<S.bR,((S.bo*9+i*9)+1)=(S.bo+i)*9+1 /\ (S.bo+i)<S.bR,(S.bo*9+i*9)=(S.bo+i)*9+0 /\ (S.bo+i)<S.bR,(i:Int)=((i:Nat):Int) /\ i<S.nb] λ n8=>aah (cR S (i:Int) _ hS.toSetN) ?_;have hb9:=cQ hS.toSetN (i:Int);refine aj 5 [.sl ((af S (i:Int)).toNat) ((sizeOf S).toNat) false] [af S (i:Int)=(((af S (i:Int)).toNat:Nat):Int) /\ (sizeOf S).toNat=(sizeOf S).toNat /\ (af S (i:Int)).toNat <= (sizeOf S).toNat /\ (sizeOf S).toNat <= (sizeOf S).toNat /\ (sizeOf S).toNat≠(af S (i:Int)).toNat] λ _=>aak [11,13] [0,2]<|aD [0,2] [0,1,2,6,3,7,4,8,5,9,10] [.own 0,.ro 0,.ix 0] [0=((0:Nat):Int) /\ 0<((sizeOf S).toNat-(af S (i:Int)).toNat)]<|aae 11 (fS [0,2] [.row 1 (((af S (i:Int)).toNat)+0) 0] [((0+((af S (i:Int)).toNat)*1)+0*1)=(((af S (i:Int)).toNat)+0)*1+0 /\ (((af S (i:Int)).toNat)+0)<((sizeOf S).toNat)] λ _=>?_);refine aD [0,2] [12] [.ix 1] [1=((1:Nat):Int) /\ 1<((sizeOf S).toNat-(af S (i:Int)).toNat)]<|aae 13 (fS [0,2] [.row 1 (((af S (i:Int)).toNat)+1) 0] [((0+((af S (i:Int)).toNat)*1)+1*1)=(((af S (i:Int)).toNat)+1)*1+0 /\ (((af S (i:Int)).toNat)+1)<((sizeOf S).toNat)] λ _=>?_);refine aad<|ae 2 [] λ _=>aak [11,13] [0,2]<|aD [0,2] [0,1,2,6,3,7,4,8,5,9,10] [.own 0,.ro 0,.ix 2] [2=((2:Nat):Int) /\ 2<((sizeOf S).toNat-(af S (i:Int)).toNat)]<|aae 11 (fS [0,2] [.row 1 (((af S (i:Int)).toNat)+2) 0] [((0+((af S (i:Int)).toNat)*1)+2*1)=(((af S (i:Int)).toNat)+2)*1+0 /\ (((af S (i:Int)).toNat)+2)<((sizeOf S).toNat)] λ _=>?_);refine aD [0,2] [12] [.ix 3] [3=((3:Nat):Int) /\ 3<((sizeOf S).toNat-(af S (i:Int)).toNat)]<|aae 13 (fS [0,2] [.row 1 (((af S (i:Int)).toNat)+3) 0] [((0+((af S (i:Int)).toNat)*1)+3*1)=(((af S (i:Int)).toNat)+3)*1+0 /\ (((af S (i:Int)).toNat)+3)<((sizeOf S).toNat)] λ _=>?_);refine aad<|ae 1 [] λ _=>aak [7,9] [0,2]<|aD [0,2] [0,1,2,4,3,5,6] [.own 0,.ro 0,.ix 4] [4=((4:Nat):Int) /\ 4<((sizeOf S).toNat-(af S (i:Int)).toNat)]<|aae 7 (fS [0,2] [.row 1 (((af S (i:Int)).toNat)+4) 0] [((0+((af S (i:Int)).toNat)*1)+4*1)=(((af S (i:Int)).toNat)+4)*1+0 /\ (((af S (i:Int)).toNat)+4)<((sizeOf S).toNat)] λ _=>?_);refine aD [0,2] [8] [.ix 5] [5=((5:Nat):Int) /\ 5<((sizeOf S).toNat-(af S (i:Int)).toNat)]<|aae 9 (fS [0,2] [.row 1 (((af S (i:Int)).toNat)+5) 0] [((0+((af S (i:Int)).toNat)*1)+5*1)=(((af S (i:Int)).toNat)+5)*1+0 /\ (((af S (i:Int)).toNat)+5)<((sizeOf S).toNat)] λ _=>?_);refine aad<|aj 6 [.nw] [bx ((i:Int)+1)] λ _=>RN.bv 1 (congrArg (λ v_=>(.rows 1 ((sizeOf S).toNat) v_ 3 (0,0):Blk)) (show (dD (dD (dD (dD (dD (dD (aU (br S i)) (((af S (i:Int)).toNat)+0) 0 (vI ((S.bods.getD (S.bo+i) dB).mot.px))) (((af S (i:Int)).toNat)+1) 0 (vI ((S.bods.getD (S.bo+i) dB).mot.py))) (((af S (i:Int)).toNat)+2) 0 (vI ((S.bods.getD (S.bo+i) dB).mot.vx))) (((af S (i:Int)).toNat)+3) 0 (vI ((S.bods.getD (S.bo+i) dB).mot.vy))) (((af S (i:Int)).toNat)+4) 0 (vI ((S.bods.getD (S.bo+i) dB).a))) (((af S (i:Int)).toNat)+5) 0 (vI ((S.bods.getD (S.bo+i) dB).b)))=(aU (br S (i+1))) from (by rw[<- Ah hS.toSetN (i:=i) (by omega)] <;> kernel_rfl))) ?_;refine WK (i+1) [1,2] [] ?_
    try dsimp only
    exact⟨by omega,by omega⟩
   ·refine ae 12 [] λ _=>aap [] [0] [] (v:=vS (n4+0) 0 ((sizeOf S).toNat) ((sizeOf S).toNat)) (H':=[((n4+0),.rows 1 ((sizeOf S).toNat) (aU (br S i)) 3 (0,0))]) ?_;have ei:i=S.nb:=by omega
    subst ei;exact⟨_,rfl,rfl⟩
abbrev dC(S:Setup)(bp mb:Nat):List Value:=[vI S.players,vS S.bb (S.bo*9) S.nb S.bc,vI S.box.x0,vI S.box.y0,vI S.box.x1,vI S.box.y1,.slice S.rA S.rn S.rc,.slice S.dA S.dn S.dc,vI S.fog,vI S.g.x,vI S.g.y,vI S.push,vI S.drag,vI S.rest,vI S.rounds,vI S.fuel,vP bp 0,vP mb 0]
inductive GameH(rs:List Bx)(ds:List Dr)(bp gb:Nat)(S:Setup)(M:MemS)(k:Nat):HL -> Prop
 | mk (mb:Nat) (T U:HL) (hM:MemH mb M k T) (hU:tC S rs ds U):GameH rs ds bp gb S M k (ap [(gb,.lit (dC S bp mb) 121 (0,0))] [T,U])
theorem Hg(q:Nat)(cs:List Int)(n k cap:Nat)(F:HL)(hn:cs.length=n)(hq:(q,.rows 1 n (aU cs) 3 (0,0))∈F)(hc:n <= 1000000)(hk:k <= 100000000)(hcap:n <= cap):Sp Tryz.prog 87 #[vS q 0 n cap] (ap [] []) F (λ u H'=>∃x:Nat × HL,H'=ap [] [x.2] /\ (u=vP x.1 0 /\ MemH x.1 ⟨cs,[],0⟩ k x.2)):=by
 subst hn;exact KB q cs k cap F hq hc hk hcap
theorem rd(S:Setup)(rs:List Bx)(ds:List Dr)(bp:Nat)(F:HL)(hS:SetCl F S)(hM:MapIn F S rs ds)(h1:1 <= S.nb)(RV:S.rn <= 1000000)(UM:S.dn <= 1000000)(IT:(sizeOf S).toNat <= 1000000)(hv:ln S rs ds=0)(k:Nat)(hk:k <= 100000000):Sp Tryz.prog 60 #[Setup.v S,vP bp 0] (ap [] []) F (λ u H'=>∃x:Nat × Setup × HL,H'=ap [] [x.2.2] /\ (u=.tuple #[vP x.1 0,vI 0] /\ SetEq S x.2.1 /\ GameH rs ds bp x.1 x.2.1 ⟨br S S.nb,[],0⟩ k x.2.2)):=by
 refine aat Tryz.func60 rfl mn (A:=[]) (Ts:=[]) rfl λ w0=>?_;refine ae 11 (ow 0 16) λ n1=>aah (KH S rs ds _ hS.up.toSh hM.up)<|ae 9 [] λ _=>db 10 (nt (acr hv))<|ae 4 [] λ _=>aak [] []<|ag [] [0,2,3] (ow 0 32)<|aae 1 (aaf [] (Hp:=[]) (Tp:=[]) [] [] (Ag S rs ds _ hS.up hM.up h1 RV UM) ?_);rintro _ ⟨S2,U3⟩ ⟨rfl,he4,hU5⟩;dsimp only at he4 hU5;refine aae 4 (aaf [] (Hp:=[]) (Tp:=[]) [] [] (Ed S _ hS.up) ?_);rintro _ q6 rfl;refine aae 5 (aaf [] (Hp:=[]) (Tp:=[]) [] [] (Hg q6 (br S S.nb) ((sizeOf S).toNat) k ((sizeOf S).toNat) _ (jP _ _) (av 0) IT hk (aa0 _)) ?_);rintro _ ⟨m7,T8⟩ ⟨rfl,U6⟩;dsimp only at U6;refine ag [] [6] []<|aae 7 (aag [] [] λ SZ=>?_);refine ag [] [8,9] []<|aad<|ae 1 [] λ _=>aap [] [0] [0,1] (v:=.tuple #[vP (SZ+0) 0,vI 0]) (H':=(ap [((SZ+0),.lit [vI S2.players,vS S2.bb (S2.bo*9) S2.nb S2.bc,vI S2.box.x0,vI S2.box.y0,vI S2.box.x1,vI S2.box.y1,.slice S2.rA S2.rn S2.rc,.slice S2.dA S2.dn S2.dc,vI S2.fog,vI S2.g.x,vI S2.g.y,vI S2.push,vI S2.drag,vI S2.rest,vI S2.rounds,vI S2.fuel,vP bp 0,vP m7 0] 121 (0,0))] [T8,U3])) ?_;exact⟨((SZ+0),S2,ap [((SZ+0),.lit (dC S2 bp m7) 121 (0,0))] [T8,U3]),by simp[ap],rfl,he4,.mk _ _ _ U6 hU5⟩
theorem Hh(S:Setup)(bp gb mb:Nat)(F:HL)(hg:(gb,.lit (dC S bp mb) 121 (0,0))∈F):Sp Tryz.prog 55 #[vP gb 0] [] F (λ u H'=>u=vP mb 0 /\ H'=[]):=by
 refine aat Tryz.func55 rfl (mc hg mn) (A:=[]) (Ts:=[]) rfl λ w0=>?_;refine ae 14 [.ro 0] λ _=>?_;exact aap [] [] [] ⟨rfl,rfl⟩
def QL(cs:List Int):Prop:=(cs.getD 1 0=0 /\ cs.getD 2 0=0 /\ cs.getD 3 0=0 /\ cs.getD 4 0=0 /\ cs.getD 5 0=0 /\ cs.getD 6 0=0 /\ cs.getD 7 0=0 /\ cs.getD 8 0=0 /\ cs.getD 9 0=0 /\ cs.getD 10 0=0) /\ cs.getD 0 0 >= 0 /\ cs.getD 0 0 <= 6000
instance (cs:List Int):Decidable (QL cs):=inferInstanceAs (Decidable (_ /\ _))
theorem MemH.len2{mb:Nat}{M:MemS}{k:Nat}{T:HL}(h:MemH mb M k T):M.lg.length+k <= 100000000:=by
 cases h with
 | mk cb A cap Hl hs hc hl=>exact hl
def tD(na nb:Nat)(xs ys:List Int):Prop:=na=nb /\ ∀k,k<na -> xs.getD k 0=ys.getD k 0
instance (na nb:Nat) (xs ys:List Int):Decidable (tD na nb xs ys):=inferInstanceAs (Decidable (_ /\ _))
theorem Ee(qa qb na nb Na Nb ca cb:Nat)(xs ys:List Int)(F:HL)(ha:(qa,.rows 1 Na (aU xs) 3 (0,0))∈F)(hb:(qb,.rows 1 Nb (aU ys) 3 (0,0))∈F)(hna:na <= Na)(Vh:nb <= Nb)(hn:na <= 1000000):Sp Tryz.prog 27 #[vS qa 0 na ca,vS qb 0 nb cb] [] F (λ u H'=>u=.bool (decide (tD na nb xs ys)) /\ H'=[]):=by
 refine aat Tryz.func27 rfl (mc ha (mc hb mn)) (A:=[]) (Ts:=[]) rfl λ w0=>?_;refine ae 15 [] λ _=>aam ((na:Int)=(nb:Int)) 10 (λ h1=>?_) λ h1=>?_
 ·refine ae 10 [] λ _=>aan (σ:=Nat) (λ i=>⟨[(0,vS qa 0 na ca),(1,vS qb 0 nb cb),(5,vI (i:Int))],[],[],i <= na /\ ∀t,t<i -> xs.getD t 0=ys.getD t 0,na-i⟩) 0 [] [] (⟨aa9 _,λ t ht=>absurd ht (Nat.not_lt_zero _)⟩) ?_;rintro i ⟨TN,hs1⟩ RF;refine ae 9 [] λ _=>aal ((i:Int)<(na:Int)) 14 (λ h4=>?_) λ h4=>?_
  ·refine ae 6 [] λ _=>aak [] []<|aD [] [0,1,4,5,2,6,3,7,8] [.ix i,.ix i,.rorow 0 i 0,.rorow 1 i 0] [(0+i*1)=i*1+0 /\ i<Nb,(0+i*1)=i*1+0 /\ i<Na,(i:Int)=((i:Nat):Int) /\ i<nb,(i:Int)=((i:Nat):Int) /\ i<na]<|aad<|ae 1 [] λ _=>aam (xs.getD i 0=ys.getD i 0) 25 (λ h5=>?_) λ h5=>?_
   ·refine aj 9 [.nw] [bx ((i:Int)+1)] λ _=>?_;refine RF (i+1) [] [] ?_
    try dsimp only
    refine⟨⟨by omega,λ t ht=>?_⟩,by omega⟩;rcases abX t i with h_|h_
    ·exact hs1 t h_
    ·obtain rfl:t=i:=by omega
     exact h5
   ·refine ae 6 [] λ _=>aap [] [] [] (v:=.bool false) (H':=[]) ?_;exact⟨congrArg Value.bool (aco (show ¬ tD na nb xs ys from λ h_=>h5 (h_.2 i (by omega)))).symm,rfl⟩
  ·refine ae 11 [] λ _=>aap [] [] [] (v:=.bool true) (H':=[]) ?_;exact⟨congrArg Value.bool (acr (show tD na nb xs ys from ⟨by omega,λ t ht=>hs1 t (by omega)⟩)).symm,rfl⟩
 ·refine ae 6 [] λ _=>aap [] [] [] (v:=.bool false) (H':=[]) ?_;exact⟨congrArg Value.bool (aco (show ¬ tD na nb xs ys from λ h_=>by have:=h_.1;omega)).symm,rfl⟩
theorem u9(b:Bool)(qa qb na nb Na Nb ca cb:Nat)(xs ys:List Int)(F:HL)(ha:(qa,.rows 1 Na (aU xs) 3 (0,0))∈F)(hb:(qb,.rows 1 Nb (aU ys) 3 (0,0))∈F)(hna:na <= Na)(Vh:nb <= Nb)(hn:na <= 1000000)(he:decide (tD na nb xs ys)=b):Sp Tryz.prog 27 #[vS qa 0 na ca,vS qb 0 nb cb] [] F (λ u H'=>u=.bool b /\ H'=[]):=he ▸ Ee qa qb na nb Na Nb ca cb xs ys F ha hb hna Vh hn
def fh(x:Inp):Prop:=(¬ x.dx < -1 /\ ¬ x.dx>1) /\ (¬ x.dy < -1 /\ ¬ x.dy>1) /\ ¬ x.act<0 /\ ¬ x.act>3
instance (x:Inp):Decidable (fh x):=inferInstanceAs (Decidable (_ /\ _))
def dL(pl:Int)(n:Nat)(xs:List Inp)(now:Int):Int:=if (n:Int)=pl then (if ∀k,k<n -> fh (xs.getD k dI) then (if now >= 6000 then 2 else 0) else 1) else 17
theorem xz(mb cb n:Nat)(A:Option Addr)(m cap:Nat)(base:Int)(F:HL)(hm:(mb,.lit [vS cb 0 n n,.slice A m cap,vI base] 162 (0,0))∈F):Sp Tryz.prog 59 #[vP mb 0] [] F (λ u H'=>u=vI (bd (base+(m:Int))) /\ H'=[]):=by
 refine aat Tryz.func59 rfl (mc hm mn) (A:=[]) (Ts:=[]) rfl λ w0=>?_;refine ae 6 [] λ _=>aak [] []<|ag [] [0,4,1,5,2,6,3,7,8,9,10] [.ro 0,.ro 0]<|aad<|ae 1 [] λ _=>?_;exact aap [] [] [] ⟨rfl,rfl⟩
theorem xA{mb:Nat}{M:MemS}{k:Nat}{T F:HL}(h:MemH mb M k T)(hs:∀x∈T,x∈F):Sp Tryz.prog 59 #[vP mb 0] [] F (λ u H'=>u=vI (bd (M.base+(M.lg.length:Int))) /\ H'=[]):=by
 cases h with
 | mk cb A cap Hl Tk hc hl=>exact xz mb cb M.cs.length A M.lg.length cap M.base F (hs _ (by simp))
theorem re(S:Setup)(bp gb mb:Nat)(M:MemS)(k:Nat)(T F:HL)(hg:(gb,.lit (dC S bp mb) 121 (0,0))∈F)(hM:MemH mb M k T)(hT:∀x∈T,x∈F):Sp Tryz.prog 52 #[vP gb 0] [] F (λ u H'=>u=vI (M.get 0) /\ H'=[]):=by
 refine aat Tryz.func52 rfl (mc hg mn) (A:=[]) (Ts:=[]) rfl λ w0=>?_;refine ae 11 [.ro 0] λ _=>aah (ay 0 hM (λ x hx=>az (hT x hx)))<|ae 3 [] λ _=>?_;exact aap [] [] [] ⟨rfl,rfl⟩
theorem Ai(S:Setup)(bp gb mb:Nat)(M:MemS)(k:Nat)(A:Option Addr)(n cap:Nat)(xs:List Inp)(T F:HL)(hg:(gb,.lit (dC S bp mb) 121 (0,0))∈F)(hM:MemH mb M k T)(hT:∀x∈T,x∈F)(hl:RowL cV 40 F A n xs)(hn:n <= 1000000):Sp Tryz.prog 80 #[vP gb 0,.slice A n cap] [] F (λ u H'=>u=vI (dL S.players n xs (M.get 0)) /\ H'=[]):=by
 refine aat Tryz.func80 rfl (mc hg mn) (A:=[]) (Ts:=[]) rfl λ w0=>?_;refine ae 18 [.ro 0] λ _=>aam ((n:Int)=S.players) 14 (λ h1=>?_) λ h1=>?_
 ·refine ae 12 [] λ _=>aan (σ:=Nat) (λ k_=>⟨[(0,vP gb 0),(15,.slice A n cap),(16,vI (n:Int)),(17,vI (k_:Int))],[],[],k_ <= n /\ ∀t,t<k_ -> fh (xs.getD t dI),n-k_⟩) 0 [] [] (⟨aa9 _,λ t ht=>absurd ht (Nat.not_lt_zero _)⟩) ?_;rintro k_ ⟨hkl,g_⟩ RF;refine ae 6 [] λ _=>aal ((k_:Int)<(n:Int)) 18 (λ h4=>?_) λ h4=>?_
  ·refine ae 7 [] λ _=>?_;obtain⟨qx5,Rn,Wx,fx5,Zv,Ti,TJ,YC,Ur⟩:=hl.at (k:=k_) (by omega);refine aN 15 (congrArg (λ v_=>(.slice v_ n cap:Value)) Ti)<|RN.ro (λ _=>(mc hg (mc TJ mn)))<|aj 2 [.ix k_,.rorow 1 (Rn+k_) 0,.rorow 1 (Rn+k_) 1,.rorow 1 (Rn+k_) 2] [((Rn*3+k_*3)+2)=(Rn+k_)*3+2 /\ (Rn+k_)<Wx,((Rn*3+k_*3)+1)=(Rn+k_)*3+1 /\ (Rn+k_)<Wx,(Rn*3+k_*3)=(Rn+k_)*3+0 /\ (Rn+k_)<Wx,(k_:Int)=((k_:Nat):Int) /\ k_<n] λ _=>aN 20 (congrArg (λ v_=>(.agg #[vI v_.dx,vI v_.dy,vI v_.act]:Value)) Ur)<|ae 10 (aab 4) λ n6=>aal ((xs.getD k_ dI).dx<(-1)) 24 (λ h7=>?_) λ h7=>?_
   ·refine ae 32 [] λ _=>aap [] [] [] (v:=vI 1) (H':=[]) ?_;exact⟨by rw[dL,if_pos (by omega),if_neg (λ h_=>by have R5:=h_ k_ (by omega);unfold fh at R5;omega)],rfl⟩
   ·refine ae 5 [.own 0] λ _=>aal ((xs.getD k_ dI).dx>1) 29 (λ h8=>?_) λ h8=>?_
    ·refine ae 27 [] λ _=>aap [] [] [] (v:=vI 1) (H':=[]) ?_;exact⟨by rw[dL,if_pos (by omega),if_neg (λ h_=>by have R5:=h_ k_ (by omega);unfold fh at R5;omega)],rfl⟩
    ·refine ae 5 [.own 0] λ _=>aal ((xs.getD k_ dI).dy<(-1)) 34 (λ h9=>?_) λ h9=>?_
     ·refine ae 22 [] λ _=>aap [] [] [] (v:=vI 1) (H':=[]) ?_;exact⟨by rw[dL,if_pos (by omega),if_neg (λ h_=>by have R5:=h_ k_ (by omega);unfold fh at R5;omega)],rfl⟩
     ·refine ae 5 [.own 0] λ _=>aal ((xs.getD k_ dI).dy>1) 39 (λ TA=>?_) λ TA=>?_
      ·refine ae 17 [] λ _=>aap [] [] [] (v:=vI 1) (H':=[]) ?_;exact⟨by rw[dL,if_pos (by omega),if_neg (λ h_=>by have R5:=h_ k_ (by omega);unfold fh at R5;omega)],rfl⟩
      ·refine ae 5 [.own 0] λ _=>aal ((xs.getD k_ dI).act<0) 44 (λ SW=>?_) λ SW=>?_
       ·refine ae 12 [] λ _=>aap [] [] [] (v:=vI 1) (H':=[]) ?_;exact⟨by rw[dL,if_pos (by omega),if_neg (λ h_=>by have R5:=h_ k_ (by omega);unfold fh at R5;omega)],rfl⟩
       ·refine ae 6 [.own 0] λ _=>aal ((xs.getD k_ dI).act>3) 48 (λ Sv=>?_) λ Sv=>?_
        ·refine ae 6 [] λ _=>aap [] [] [] (v:=vI 1) (H':=[]) ?_;exact⟨by rw[dL,if_pos (by omega),if_neg (λ h_=>by have R5:=h_ k_ (by omega);unfold fh at R5;omega)],rfl⟩
        ·refine aj 8 [.nw] [bx ((k_:Int)+1)] λ _=>aN 15 (congrArg (λ v_=>(.slice v_ n cap:Value)) Ti.symm) ?_;refine RF (k_+1) [] [] ?_
         try dsimp only
         refine⟨⟨by omega,λ t ht=>?_⟩,by omega⟩;rcases abX t k_ with h_|h_
         ·exact g_ t h_
         ·obtain rfl:t=k_:=by omega
          exact⟨⟨h7,h8⟩,⟨h9,TA⟩,SW,Sv⟩
  ·refine ae 10 [] λ _=>aah (re S bp gb mb M k T _ (az hg) hM (λ x hx=>az (hT x hx)))<|ae 3 [] λ _=>aal (M.get 0 >= 6000) 52 (λ SV=>?_) λ SV=>?_
   ·refine ae 6 [] λ _=>aap [] [] [] (v:=vI 2) (H':=[]) ?_;exact⟨by rw[dL,if_pos (by omega),if_pos (λ t ht=>g_ t (by omega)),if_pos (by omega)],rfl⟩
   ·refine ae 8 [] λ _=>aap [] [] [] (v:=vI 0) (H':=[]) ?_;exact⟨by rw[dL,if_pos (by omega),if_pos (λ t ht=>g_ t (by omega)),if_neg (by omega)],rfl⟩
 ·refine ae 6 [] λ _=>aap [] [] [] (v:=vI 17) (H':=[]) ?_;exact⟨by rw[dL,if_neg (by omega)],rfl⟩
theorem Eg(gb ib io ni ic:Nat)(F:HL):Sp Tryz.prog 83 #[vP gb 0,vS ib (io*3) ni ic] (ap [] []) F (λ u H'=>∃n:Nat,H'=ap [((n+1),.lit [vS ib (io*3) ni ic] 38 (0,0)),((n+0),.lit [vP gb 0] 97 (0,0))] [] /\ u=.func (.func 105) #[] #[vP (n+0) 0,vP (n+1) 0]):=by
 refine aat Tryz.func83 rfl mn (A:=[]) (Ts:=[]) rfl λ w0=>?_;refine ae 13 [] λ n1=>aap [] [0,1] [] (v:=.func (.func 105) #[] #[vP (n1+0) 0,vP (n1+1) 0]) (H':=(ap [((n1+1),.lit [vS ib (io*3) ni ic] 38 (0,0)),((n1+0),.lit [vP gb 0] 97 (0,0))] [])) ?_;exact⟨_,rfl,rfl⟩
end Go.Proofs.YtdppjkjbghbnjaaGreatDoor
