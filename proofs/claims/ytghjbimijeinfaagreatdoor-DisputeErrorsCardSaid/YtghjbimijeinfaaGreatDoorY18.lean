import Derived.Test.YtghjbimijeinfaaGreatDoorY17
set_option maxHeartbeats 4000000
set_option maxRecDepth 100000
set_option linter.unusedSimpArgs false
set_option linter.unusedVariables false
namespace Go.Proofs.YtghjbimijeinfaaGreatDoor
open Go.RowKit
def HQ (xs:List Int):Int:=1+kv xs 0 % 3
def qb (xs:List Int):Int:=HQ xs+kv xs 3 / 3 % 3
def bN (xs:List Int) (i:Nat):Int:=kv xs (4+2 * i)
def bM (xs:List Int) (i:Nat):Int:=kv xs (5+2 * i)
def sx (xs:List Int) (i:Nat) (A:Option Addr) (c:Nat):Bod:=⟨⟨(cG (bN xs i)).1,(cG (bN xs i)).2,A,c⟩,⟨((((bN xs i) / 1000) % 13) - 6) * 900,((((bM xs i) / 50) % 11) - 5) * 800,((((bM xs i) / 550) % 9) - 4) * 300,((((bN xs i) / 13000) % 9) - 4) * 300,([1024,1024,512,2048,0]:List Int).getD (((bM xs i) / 5000) % 5).toNat 0⟩,(bM xs i) % 50,(bN xs i) % 7⟩
def vO (a b c:Nat) (i:Nat):Option Addr:=match i with | 0=>some ⟨a,0,none⟩ | 1=>some ⟨b,0,none⟩ | _=>some ⟨c,0,none⟩
def js (i:Nat):Nat:=match i with | 0=>0 | 1=>1 | _=>2
def zQ (a b c:Nat):Nat -> Nat -> Value:=λ i _=>.slice (vO a b c i) (js i) (js i)
theorem qd {F:HL} {A:Option Addr} {n:Nat} {xs:List Int} (h:ArgL F A n xs):1 <= HQ xs /\ HQ xs <= 3:=by
 have:=gN h 0
 unfold HQ;omega
theorem mZ {F:HL} {A:Option Addr} {n:Nat} {xs:List Int} (h:ArgL F A n xs):1 <= qb xs /\ qb xs <= 5 /\ HQ xs <= qb xs:=by
 have:=gN h 0
 have:=gN h 3
 unfold qb HQ;omega
theorem Ee {xs rest:List Int} {n i:Nat} (h:i < n):(ks xs n++rest).getD i 0=kv xs i:=by
 rw [List.getD_eq_getElem?_getD,List.getElem?_append_left (by rw [mg];exact h),<- List.getD_eq_getElem?_getD,KC h]
theorem qf {α:Type} {l r:List α} {i:Nat} {d:α} (h:i < l.length):(l++r).getD i d=l.getD i d:=by
 rw [List.getD_eq_getElem?_getD,List.getElem?_append_left h,<- List.getD_eq_getElem?_getD]
theorem sy {α:Type} {l:List α} {x d:α}:(l++[x]).getD l.length d=x:=by simp
theorem ShH.left {s:Shp} {T X:HL} (h:ShH s T):ShH s (T++X):=λ F hF=>h F λ x hx=>hF x (List.mem_append_left _ hx)
theorem ShH.right {s:Shp} {T X:HL} (h:ShH s X):ShH s (T++X):=λ F hF=>h F λ x hx=>hF x (List.mem_append_right _ hx)
theorem ya {F:HL} {a b c:Nat} (hb:(b,.rows 2 1 (cu mh (ko 1)) 97 (0,0)) ∈ F) (hc:(c,.rows 2 2 (cu mh (ko 2)) 97 (0,0)) ∈ F):∀ i:Nat,RowL mh 97 F (vO a b c i) (js i) (ko i)
 | 0=>.zero _
 | 1=>RowL.whole (xs:=ko 1) hb (Nat.le_refl _)
 | _+2=>RowL.whole (xs:=ko 2) hc (Nat.le_refl _)
structure SetG (xs:List Int) (S:Setup) (T:HL):Prop where
 pl:S.players=HQ xs
 nb:(S.nb:Int)=qb xs
 bo:S.bo=0
 cap:S.nb <= S.bc
 room:S.bo+S.nb <= S.bR
 nums:S.box=⟨-12000,-9000,12000,9000⟩ /\ S.fog=4000+(kv xs 1 % 9) * 1000 /\ S.g=⟨0,(-((kv xs 2 / 36) % 3)) * 40⟩ /\ S.push=((kv xs 1 / 9) % 5) * 100 /\ S.drag=(kv xs 2 % 4) * 100 /\ S.rest=((kv xs 2 / 4) % 3) * 512 /\ S.rounds=1+(kv xs 2 / 12) % 3 /\ S.fuel=60
 bod:∀ j,j < S.nb -> ∃ A c,S.body j=sx xs j A c
 sin:∀ F,(S.bb,.rows 9 S.bR (fF S.bods) 106 (0,0)) ∈ F -> (∀ x ∈ T,x ∈ F) -> SetIn F S
 maps:(S.rn=3 /\ S.dn=js (kv xs 3 % 3).toNat) /\ ∀ F,(∀ x ∈ T,x ∈ F) -> MapIn F S rD (ko (kv xs 3 % 3).toNat)
theorem BW (A:Option Addr) (n cap:Nat) (xs:List Int) (F:HL) (hl:ArgL F A n xs) (hn:n <= 9223372036854775807):Sp Tryz.prog 7 #[.slice A n cap] [] F (λ u H'=>∃ x:Setup × HL,H'=ap [(x.1.bb,.rows 9 x.1.bR (fF x.1.bods) 106 (0,0))] [x.2] /\ (u=Setup.v x.1 /\ SetG xs x.1 x.2)):=by
 refine Sp.run Tryz.func7 rfl mn (A:=[]) (Ts:=[]) rfl λ w0=>?_
 refine ae 17 [] λ n1=>RN.nt<|RN.loop (σ:=Nat × Option Addr × Nat × HL) (λ ⟨i,A_,c_,T_⟩=>⟨[(0,.slice A n cap),(2,vP (n1+0) 0),(3,.slice A_ i c_),(4,vI (i:Int))],[((n1+0),.lit [vI 0,.slice none 0 0,vI 0,vI 0,vI 0,vI 0,.slice none 0 0,.slice none 0 0,vI 0,vI 0,vI 0,vI 0,vI 0,vI 0,vI 0,vI 0] 31 (0,0))],[T_],i <= 24 /\ SlIs t2 3 (ks xs i) A_ c_ T_ /\ cQ A_,24 - i⟩) (0,none,0,[]) [0] [0] (⟨Nat.zero_le _,SlIs.nil _ _,trivial⟩) ?_
 rintro ⟨i,A_,c_,T_⟩ ⟨hi_,hs_,hz_⟩ mt3
 refine ae 7 [] λ _=>RN.em ((i:Int) < 24) 12 (λ h4=>?_) λ h4=>?_
 ·refine ae 19 [] λ _=>RN.em ((i:Int) < (n:Int)) 18 (λ h5=>?_) λ h5=>?_
  ·refine ae 4 [] λ _=>?_
   obtain ⟨qx6,ox6,Nx6,gx6,tyx6,fzx6,hAx6,hqx6,hox6,hgx6,hrx6⟩:=hl.at (k:=i) (by omega)
   refine bn 19 (congrArg (λ v_=>(.slice v_ n cap:Value)) hAx6)<|RN.ro (λ _=>(mc hqx6 mn))<|al 2 [.ix i,.rorow 0 (ox6+i) 0] [(ox6+i * 1)=(ox6+i) * 1+0 /\ (ox6+i) < Nx6,(i:Int)=((i:Nat):Int) /\ i < n] λ _=>bn 22 (congrArg (λ v_=>(v_:Value)) hgx6)<|aj (iB (xs.getD i 0) 1000000 (by decide) _) ?_
   have hA7:=eY (n:=xs.getD i 0) hrx6 1000000 (by decide)
   refine ae 7 [] λ n8=>iu xY (ks xs i) [aE (xs.getD i 0) 1000000] 0 0 (mg xs i).symm hs_ (by rw [mg];show i+1 <= 100000000;omega) ?_
   rintro A9 c10 T11 ⟨hs12,hz13⟩
   refine al 9 [.nw] [br ((i:Int)+1)] λ _=>?_
   have hz2:=hz13 hz_
   refine mt3 (i+1,A9,c10,T11) [1] [0] ?_
   try dsimp only
   refine ⟨⟨by omega,?_,hz2⟩,by omega⟩
   rw [zP,show kv xs i=_ from by unfold kv;rw [if_pos (by rw [hl.len];omega)]]
   exact hs12
  ·refine ae 7 [] λ n14=>iu xY (ks xs i) [0] 0 0 (mg xs i).symm hs_ (by rw [mg];show i+1 <= 100000000;omega) ?_
   rintro A15 c16 T17 ⟨hs18,hz19⟩
   refine al 9 [.nw] [br ((i:Int)+1)] λ _=>?_
   have hz2:=hz19 hz_
   refine mt3 (i+1,A15,c16,T17) [1] [0] ?_
   try dsimp only
   refine ⟨⟨by omega,?_,hz2⟩,by omega⟩
   rw [zP,show kv xs i=_ from by unfold kv;rw [if_neg (by rw [hl.len];omega)]]
   exact hs18
 ·refine ae 7 [] λ _=>?_
  have ei:i=24:=by omega
  subst ei
  obtain ⟨kb,rest,rfl,rfl,hcap0⟩:=hs_.open0 hz_ (by decide) (by rw [mg];decide)
  have hcap:24 <= c_:=by rw [mg] at hcap0;exact hcap0
  refine uV 0 (x:=(kb,.rows 1 c_ (cu t2 (ks xs 24++rest)) 3 (0,0))) ?_
  have hk0:=gN hl 0
  have hk1:=gN hl 1
  have hk2:=gN hl 2
  have hk3:=gN hl 3
  have hse:qb xs=1+kv xs 0 % 3+kv xs 3 / 3 % 3:=rfl
  have hsc:=mZ hl
  have hsp:=qd hl
  refine RN.draw [37] []<|aJ [] [0,5,6,12,18,23,29,1,7,13,19,24,30,2,8,14,20,25,31,3,9,15,21,26,32,4,10,16,22,27,33,11,17,28,34,35] [.row 0 0 0,.row 0 1 0,.row 0 1 0,.row 0 2 0,.row 0 2 0,.row 0 2 0,.nw,.nw,.nw,.nw,.nw,.nw,.nw,.nw,.nw,.nw,.nw,.nw,.nw,.nw,.nw,.nw] [br (1+(((kv xs 2) / 12) % 3)),br ((((kv xs 2) / 4) % 3) * 512),br ((((kv xs 1) / 9) % 5) * 100),br (4000+(((kv xs 1) % 9) * 1000)),0 <= (kv xs 2) / 12 /\ (0:Int) < 3 /\ (kv xs 2) / 12 <= 9223372036854775807,0 <= (kv xs 2) / 4 /\ (0:Int) < 3 /\ (kv xs 2) / 4 <= 9223372036854775807,br (((kv xs 2) % 4) * 100),0 <= (kv xs 1) / 9 /\ (0:Int) < 5 /\ (kv xs 1) / 9 <= 9223372036854775807,br (((kv xs 1) % 9) * 1000),br (1+((kv xs 0) % 3)),0 <= kv xs 2 /\ (0:Int) < 12 /\ kv xs 2 <= 9223372036854775807,0 <= kv xs 2 /\ (0:Int) < 4 /\ kv xs 2 <= 9223372036854775807,0 <= kv xs 2 /\ (0:Int) < 4 /\ kv xs 2 <= 9223372036854775807,0 <= kv xs 1 /\ (0:Int) < 9 /\ kv xs 1 <= 9223372036854775807,0 <= kv xs 1 /\ (0:Int) < 9 /\ kv xs 1 <= 9223372036854775807,0 <= kv xs 0 /\ (0:Int) < 3 /\ kv xs 0 <= 9223372036854775807,2=2 * 1+0 /\ 2 < c_,2=2 * 1+0 /\ 2 < c_,2=2 * 1+0 /\ 2 < c_,1=1 * 1+0 /\ 1 < c_,1=1 * 1+0 /\ 1 < c_,0=0 * 1+0 /\ 0 < c_]<|RD.one 36 (RDO.ev [] [] λ n20=>?_)
  refine RD.one 37 (RDO.ev [] (ow 0 16) λ _=>?_)
  refine RD.fin<|al 38 [.row 1 2 0,.nw,.nw,.nw,.nw,.own 0,.own 0,.own 1,.row 6 3 0,.nw] [0 <= kv xs 3 /\ (0:Int) < 3 /\ kv xs 3 <= 9223372036854775807,3=3 * 1+0 /\ 3 < c_,br ((-(((kv xs 2) / 36) % 3)) * 40),-9223372036854775807 <= ((kv xs 2) / 36) % 3 /\ ((kv xs 2) / 36) % 3 <= 9223372036854775808,0 <= (kv xs 2) / 36 /\ (0:Int) < 3 /\ (kv xs 2) / 36 <= 9223372036854775807,0 <= kv xs 2 /\ (0:Int) < 36 /\ kv xs 2 <= 9223372036854775807,2=2 * 1+0 /\ 2 < c_] λ n21=>RN.dn 0 (.rows 1 3 (zQ (n21+1) (n21+2) (n21+3)) 27 (0,0))<|al 13 [.ix (((kv xs 3) % 3).toNat),.row 0 (((kv xs 3) % 3).toNat) 0,.own 5] [(0+(((kv xs 3) % 3).toNat) * 1)=(((kv xs 3) % 3).toNat) * 1+0 /\ (((kv xs 3) % 3).toNat) < 3,(kv xs 3) % 3=((((kv xs 3) % 3).toNat:Nat):Int) /\ ((kv xs 3) % 3).toNat < 3] λ _=>RN.nt<|RN.nt<|RN.loop (σ:=Nat × List Bod × Option Addr × Nat × HL × HL) (λ ⟨j,bods,B_,d_,V_,U_⟩=>⟨[(2,vP (n1+0) 0),(3,vS kb 0 24 c_),(6,vP (n20+0) 0),(7,vI (j:Int))],[((n21+4),.rows 1 3 (zQ (n21+1) (n21+2) (n21+3)) 27 (0,0)),((n21+3),.lit [vI 0,vI 2,vI 1,vI 2] 97 (0,0)),((n21+2),.lit [vI 0,vI 1] 97 (0,0)),((n21+1),.lit [] 97 (0,0)),((n21+0),.lit [vI (-12000),vI (-9000),vI (-1),vI 9000,vI 0,vI 0,vI 12000,vI 9000,vI 0,vI (-9000),vI 12000,vI (-1)] 25 (0,0)),((n20+0),.lit [vI (1+((kv xs 0) % 3)),.slice B_ j d_,vI (-12000),vI (-9000),vI 12000,vI 9000,vS (n21+0) 0 3 3,.slice (vO (n21+1) (n21+2) (n21+3) (((kv xs 3) % 3).toNat)) (js (((kv xs 3) % 3).toNat)) (js (((kv xs 3) % 3).toNat)),vI (4000+(((kv xs 1) % 9) * 1000)),vI 0,vI ((-(((kv xs 2) / 36) % 3)) * 40),vI ((((kv xs 1) / 9) % 5) * 100),vI (((kv xs 2) % 4) * 100),vI ((((kv xs 2) / 4) % 3) * 512),vI (1+(((kv xs 2) / 12) % 3)),vI 60] 31 (0,0)),(kb,.rows 1 c_ (cu t2 (ks xs 24++rest)) 3 (0,0)),((n1+0),.lit [vI 0,.slice none 0 0,vI 0,vI 0,vI 0,vI 0,.slice none 0 0,.slice none 0 0,vI 0,vI 0,vI 0,vI 0,vI 0,vI 0,vI 0,vI 0] 31 (0,0))],[V_,U_],(j:Int) <= qb xs /\ bods.length=j /\ (∀ t,t < j -> ∃ A c,bods.getD t dB=sx xs t A c) /\ (∀ t,t < j -> ShH (bods.getD t dB).sh U_) /\ SlIs kl 106 bods B_ d_ V_ /\ cQ B_,(qb xs).toNat - j⟩) (0,[],none,0,[],[]) [0,1,2,3,4,5,6,7] [0,1] (⟨by show (0:Int) <= _;omega,rfl,λ t ht=>absurd ht (Nat.not_lt_zero _),λ t ht=>absurd ht (Nat.not_lt_zero _),SlIs.nil _ _,trivial⟩) ?_
  rintro ⟨j,bods,B_,d_,V_,U_⟩ ⟨hj_,hbl_,hb_,hsh_,hs2_,hz2_⟩ mt23
  refine ae 2 [] λ _=>RN.draw [] []<|aJ [] [0,1,3,2,4,5,6,7,8,9] [.own 5,.row 6 3 0,.nw,.nw,.nw] [br ((1+((kv xs 0) % 3))+(((kv xs 3) / 3) % 3)),0 <= (kv xs 3) / 3 /\ (0:Int) < 3 /\ (kv xs 3) / 3 <= 9223372036854775807,0 <= kv xs 3 /\ (0:Int) < 3 /\ kv xs 3 <= 9223372036854775807,3=3 * 1+0 /\ 3 < c_]<|RD.fin<|ae 1 [] λ _=>RN.em ((j:Int) < (1+((kv xs 0) % 3))+(((kv xs 3) / 3) % 3)) 101 (λ h24=>?_) λ h24=>?_
  ·refine al 13 [.nw,.nw,.ix ((4+(2 * (j:Int))).toNat),.row 6 ((4+(2 * (j:Int))).toNat) 0] [(0+((4+(2 * (j:Int))).toNat) * 1)=((4+(2 * (j:Int))).toNat) * 1+0 /\ ((4+(2 * (j:Int))).toNat) < c_,4+(2 * (j:Int))=(((4+(2 * (j:Int))).toNat:Nat):Int) /\ (4+(2 * (j:Int))).toNat < 24,br (4+(2 * (j:Int))),br (2 * (j:Int))] λ _=>bn 109 (congrArg (λ v_=>(vI v_:Value)) (Ee (xs:=xs) (rest:=rest) (n:=24) (i:=4+2 * j) (by omega))) ?_
   have hbN:=gN hl (4+2 * j)
   rw [show kv xs (4+2 * j)=bN xs j from rfl] at hbN
   refine al 11 [.nw,.nw,.ix ((5+(2 * (j:Int))).toNat),.row 6 ((5+(2 * (j:Int))).toNat) 0] [(0+((5+(2 * (j:Int))).toNat) * 1)=((5+(2 * (j:Int))).toNat) * 1+0 /\ ((5+(2 * (j:Int))).toNat) < c_,5+(2 * (j:Int))=(((5+(2 * (j:Int))).toNat:Nat):Int) /\ (5+(2 * (j:Int))).toNat < 24,br (5+(2 * (j:Int))),br (2 * (j:Int))] λ _=>bn 115 (congrArg (λ v_=>(vI v_:Value)) (Ee (xs:=xs) (rest:=rest) (n:=24) (i:=5+2 * j) (by omega))) ?_
   have hbM:=gN hl (5+2 * j)
   rw [show kv xs (5+2 * j)=bM xs j from rfl] at hbM
   refine ae 6 [] λ _=>RN.ct (Hp:=[]) (Tp:=[]) [] [] (vM (bN xs j) _) ?_
   rintro _ ⟨A25,c26,T27⟩ ⟨rfl,hsh28⟩
   dsimp only at hsh28
   refine al 37 ([.nw,.nw]++ow 0 9++[.nw,.nw,.nw,.nw,.nw,.nw,.nw,.nw,.nw,.nw,.nw,.nw,.nw,.nw,.nw,.nw,.nw,.nw]) [0 <= (bM xs j) / 5000 /\ (0:Int) < 5 /\ (bM xs j) / 5000 <= 9223372036854775807,0 <= bM xs j /\ (0:Int) < 5000 /\ bM xs j <= 9223372036854775807,br (((((bN xs j) / 13000) % 9) - 4) * 300),br ((((bN xs j) / 13000) % 9) - 4),0 <= (bN xs j) / 13000 /\ (0:Int) < 9 /\ (bN xs j) / 13000 <= 9223372036854775807,0 <= bN xs j /\ (0:Int) < 13000 /\ bN xs j <= 9223372036854775807,br (((((bM xs j) / 550) % 9) - 4) * 300),br ((((bM xs j) / 550) % 9) - 4),0 <= (bM xs j) / 550 /\ (0:Int) < 9 /\ (bM xs j) / 550 <= 9223372036854775807,0 <= bM xs j /\ (0:Int) < 550 /\ bM xs j <= 9223372036854775807,br (((((bM xs j) / 50) % 11) - 5) * 800),br ((((bM xs j) / 50) % 11) - 5),0 <= (bM xs j) / 50 /\ (0:Int) < 11 /\ (bM xs j) / 50 <= 9223372036854775807,0 <= bM xs j /\ (0:Int) < 50 /\ bM xs j <= 9223372036854775807,br (((((bN xs j) / 1000) % 13) - 6) * 900),br ((((bN xs j) / 1000) % 13) - 6),0 <= (bN xs j) / 1000 /\ (0:Int) < 13 /\ (bN xs j) / 1000 <= 9223372036854775807,0 <= bN xs j /\ (0:Int) < 1000 /\ bN xs j <= 9223372036854775807,0 <= bN xs j /\ (0:Int) < 7 /\ bN xs j <= 9223372036854775807,0 <= bM xs j /\ (0:Int) < 50 /\ bM xs j <= 9223372036854775807] λ n29=>RN.dn 0 (.rows 1 5 (aL [1024,1024,512,2048,0]) 3 (0,0))<|al 12 ([.ix ((((bM xs j) / 5000) % 5).toNat),.row 0 ((((bM xs j) / 5000) % 5).toNat) 0]++ow 1 5++[.own 7]++ow 1 9) [(0+((((bM xs j) / 5000) % 5).toNat) * 1)=((((bM xs j) / 5000) % 5).toNat) * 1+0 /\ ((((bM xs j) / 5000) % 5).toNat) < 5,((bM xs j) / 5000) % 5=(((((bM xs j) / 5000) % 5).toNat:Nat):Int) /\ (((bM xs j) / 5000) % 5).toNat < 5] λ n30=>iu tL bods [sx xs j A25 c26] 1 0 hbl_.symm hs2_ (by rw [hbl_];show j+1 <= 100000000;omega) ?_
   rintro A31 c32 T33 ⟨hs34,hz35⟩
   refine al 10 [.own 8,.nw] [br ((j:Int)+1)] λ _=>?_
   have hz2:=hz35 hz2_
   refine oG [2,1,0]<|pP ?_
   refine mt23 (j+1,bods++[(sx xs j A25 c26)],A31,c32,T33,U_++T27) [3,4,5,6,7,8,9,10] [1,0] ?_
   try dsimp only
   refine ⟨⟨by omega,by rw [List.length_append,hbl_];rfl,?_,?_,hs34,hz2⟩,by omega⟩
   ·intro t ht
    rcases Nat.lt_or_ge t j with h | h
    ·rw [qf (by omega)];exact hb_ t h
    ·have:t=bods.length:=by omega
     subst this
     rw [sy,hbl_];exact ⟨_,_,rfl⟩
   ·intro t ht
    rcases Nat.lt_or_ge t j with h | h
    ·rw [qf (by omega)];exact (hsh_ t h).left
    ·have:t=bods.length:=by omega
     subst this
     rw [sy];exact ShH.right hsh28
  ·refine ae 7 [] λ _=>?_
   have ej:(j:Int)=qb xs:=by unfold qb HQ;unfold qb HQ at hj_;omega
   obtain ⟨bb,rest2,rfl,rfl,hcap2⟩:=hs2_.open0 hz2_ (by decide) (by rw [hbl_];omega)
   refine uV 0 (x:=(bb,.rows 9 d_ (cu kl (bods++rest2)) 106 (0,0)))<|ae 5 (ow 6 16++ow 8 16) λ _=>RN.dn 5 (.rows 4 3 (cu vN rD) 25 (0,0))<|RN.dn 3 (.rows 2 1 (cu mh (ko 1)) 97 (0,0))<|RN.dn 2 (.rows 2 2 (cu mh (ko 2)) 97 (0,0))<|RN.ret (ow 8 16) [0,5,3,2] [0] (v:=.agg #[vI (1+((kv xs 0) % 3)),vS bb 0 j d_,vI (-12000),vI (-9000),vI 12000,vI 9000,vS (n21+0) 0 3 3,.slice (vO (n21+1) (n21+2) (n21+3) (((kv xs 3) % 3).toNat)) (js (((kv xs 3) % 3).toNat)) (js (((kv xs 3) % 3).toNat)),vI (4000+(((kv xs 1) % 9) * 1000)),vI 0,vI ((-(((kv xs 2) / 36) % 3)) * 40),vI ((((kv xs 1) / 9) % 5) * 100),vI (((kv xs 2) % 4) * 100),vI ((((kv xs 2) / 4) % 3) * 512),vI (1+(((kv xs 2) / 12) % 3)),vI 60]) (H':=(ap [(bb,.rows 9 d_ (cu kl (bods++rest2)) 106 (0,0)),((n21+0),.rows 4 3 (cu vN rD) 25 (0,0)),((n21+2),.rows 2 1 (cu mh (ko 1)) 97 (0,0)),((n21+3),.rows 2 2 (cu mh (ko 2)) 97 (0,0))] [U_])) ?_
   have hbod:∀ k,k < j -> (bods++rest2).getD (0+k) dB=bods.getD k dB:=λ k hk=>by rw [Nat.zero_add,qf (by omega)]
   refine ⟨((⟨1+((kv xs 0) % 3),bb,0,j,d_,d_,bods++rest2,⟨-12000,-9000,12000,9000⟩,some ⟨(n21+0),0,none⟩,3,3,vO (n21+1) (n21+2) (n21+3) (kv xs 3 % 3).toNat,js (kv xs 3 % 3).toNat,js (kv xs 3 % 3).toNat,4000+(((kv xs 1) % 9) * 1000),⟨0,(-(((kv xs 2) / 36) % 3)) * 40⟩,(((kv xs 1) / 9) % 5) * 100,((kv xs 2) % 4) * 100,(((kv xs 2) / 4) % 3) * 512,1+(((kv xs 2) / 12) % 3),60⟩:Setup),[((n21+0),.rows 4 3 (cu vN rD) 25 (0,0)),((n21+2),.rows 2 1 (cu mh (ko 1)) 97 (0,0)),((n21+3),.rows 2 2 (cu mh (ko 2)) 97 (0,0))]++U_),(by simp [ap]),rfl,?_⟩
   refine ⟨rfl,ej,rfl,(by rw [hbl_] at hcap2;exact hcap2),(by rw [hbl_] at hcap2;show 0+j <= d_;omega),⟨rfl,rfl,rfl,rfl,rfl,rfl,rfl,rfl⟩,λ k hk=>?_,λ F hbF hF=>⟨⟨by show (0:Int) <= 1+kv xs 0 % 3 /\ 1+kv xs 0 % 3 <= 1000000;omega,by show j <= 1000000;omega⟩,hbF,by show 0+j <= d_;rw [hbl_] at hcap2;omega,λ k hk=>?_⟩,⟨⟨rfl,rfl⟩,λ F hF=>⟨RowL.whole (xs:=rD) (hF _ (List.mem_append_left _ (List.mem_cons_self))) (Nat.le_refl _),ya (hF _ (List.mem_append_left _ (List.mem_cons_of_mem _ (List.mem_cons_self)))) (hF _ (List.mem_append_left _ (List.mem_cons_of_mem _ (List.mem_cons_of_mem _ (List.mem_cons_self))))) _⟩⟩⟩
   ·obtain ⟨A,c,h⟩:=hb_ k hk
    exact ⟨A,c,by show (bods++rest2).getD (0+k) dB=_;rw [hbod k hk];exact h⟩
   ·show ShIn F ((bods++rest2).getD (0+k) dB).sh
    rw [hbod k hk]
    exact hsh_ k hk F λ x hx=>hF x (by simp [hx])
def rowN (pl:Int) (xs:List Int) (t:Int) (q:Nat):Int:=if xs.length > 0 then aE (xs.getD ((t * pl+(q:Int)) % (xs.length:Int)).toNat 0) 1000000 else 0
def vQ (n:Int):Inp:=⟨n % 3 - 1,n / 3 % 3 - 1,if n / 9 % 3=0 then n / 27 % 4 else 0⟩
def t6 (pl:Int) (xs:List Int) (t:Int) (q:Nat):Inp:=vQ (rowN pl xs t q)
def rowL (pl:Int) (xs:List Int) (t:Int) (n:Nat):List Inp:=(List.range n).map (t6 pl xs t)
theorem fl (pl:Int) (xs:List Int) (t:Int) (n:Nat):(rowL pl xs t n).length=n:=by simp [rowL]
theorem nM (pl:Int) (xs:List Int) (t:Int) (n:Nat):rowL pl xs t (n+1)=rowL pl xs t n++[t6 pl xs t n]:=by simp [rowL,List.range_succ]
theorem Eg {pl:Int} {xs:List Int} {t:Int} {n i:Nat} (h:i < n):(rowL pl xs t n).getD i dI=t6 pl xs t i:=by simp [rowL,h]
theorem HS {F:HL} {A:Option Addr} {n:Nat} {xs:List Int} (h:ArgL F A n xs) (pl t:Int) (q:Nat):0 <= rowN pl xs t q /\ rowN pl xs t q < 1000000:=by
 unfold rowN
 split
 ·next hi =>
  rw [h.len] at hi
  have h1:=Int.emod_nonneg (t * pl+(q:Int)) (show (n:Int) ≠ 0 by omega)
  have h2:=Int.emod_lt_of_pos (t * pl+(q:Int)) (show (0:Int) < n by omega)
  rw [h.len]
  obtain ⟨_,_,_,_,_,_,_,_,_,_,hr⟩:=h.at (k:=((t * pl+(q:Int)) % (n:Int)).toNat) (by omega)
  exact eY hr 1000000 (by decide)
 ·omega
theorem HT (S:Setup) (A:Option Addr) (n cap:Nat) (xs:List Int) (t:Int) (F:HL) (hl:ArgL F A n xs) (hn:n <= 9223372036854775807) (hp:0 <= S.players /\ S.players <= 1000000) (ht:0 <= t /\ t <= 1000000):Sp Tryz.prog 39 #[(Setup.v S),.slice A n cap,vI t] [] F (λ u H'=>∃ x:Option Addr × Nat × HL,H'=ap [] [x.2.2] /\ (u=.slice x.1 S.players.toNat x.2.1 /\ SlIs gC 151 (rowL S.players xs t S.players.toNat) x.1 x.2.1 x.2.2 /\ cQ x.1)):=by
 have hm:0 <= t * S.players /\ t * S.players <= 1000000000000:=⟨Int.mul_nonneg ht.1 hp.1,Int.le_trans (Int.mul_le_mul ht.2 hp.2 hp.1 (by decide)) (by decide)⟩
 refine Sp.run Tryz.func39 rfl mn (A:=[]) (Ts:=[]) rfl λ w0=>?_
 refine ae 18 [] λ n1=>RN.nt<|RN.loop (σ:=Nat × Option Addr × Nat × HL) (λ ⟨q,A_,c_,T_⟩=>⟨[(1,.slice A n cap),(2,vI t),(3,vP (n1+0) 0),(7,.slice A_ q c_),(8,vI (q:Int))],[((n1+0),.lit (Setup.l S) 31 (0,0))],[T_],(q:Int) <= S.players /\ SlIs gC 151 (rowL S.players xs t q) A_ c_ T_ /\ cQ A_,S.players.toNat - q⟩) (0,none,0,[]) [0] [0] (⟨by show (0:Int) <= _;omega,SlIs.nil _ _,trivial⟩) ?_
 rintro ⟨q,A_,c_,T_⟩ ⟨hi_,hs_,hz_⟩ mt3
 refine ae 9 [.own 0] λ _=>RN.em ((q:Int) < S.players) 14 (λ h4=>?_) λ h4=>?_
 ·refine ae 18 [] λ _=>RN.em ((n:Int) > 0) 19 (λ h5=>?_) λ h5=>?_
  ·refine al 12 [.own 0,.nw,.nw,.nw] [0 <= (t * S.players)+(q:Int) /\ (0:Int) < (n:Int) /\ (t * S.players)+(q:Int) <= 9223372036854775807,br ((t * S.players)+(q:Int)),br (t * S.players)] λ _=>?_
   have hix1:=Int.emod_nonneg (t * S.players+(q:Int)) (show (n:Int) ≠ 0 by omega)
   have hix2:=Int.emod_lt_of_pos (t * S.players+(q:Int)) (show (0:Int) < n by omega)
   obtain ⟨qx6,ox6,Nx6,gx6,tyx6,fzx6,hAx6,hqx6,hox6,hgx6,hrx6⟩:=hl.at (k:=((t * S.players+(q:Int)) % (n:Int)).toNat) (by omega)
   refine bn 20 (congrArg (λ v_=>(.slice v_ n cap:Value)) hAx6)<|RN.ro (λ _=>(mc hqx6 mn))<|al 2 [.ix ((((t * S.players)+(q:Int)) % (n:Int)).toNat),.rorow 0 (ox6+((((t * S.players)+(q:Int)) % (n:Int)).toNat)) 0] [(ox6+((((t * S.players)+(q:Int)) % (n:Int)).toNat) * 1)=(ox6+((((t * S.players)+(q:Int)) % (n:Int)).toNat)) * 1+0 /\ (ox6+((((t * S.players)+(q:Int)) % (n:Int)).toNat)) < Nx6,((t * S.players)+(q:Int)) % (n:Int)=(((((t * S.players)+(q:Int)) % (n:Int)).toNat:Nat):Int) /\ (((t * S.players)+(q:Int)) % (n:Int)).toNat < n] λ _=>bn 31 (congrArg (λ v_=>(v_:Value)) hgx6)<|aj (iB (xs.getD (((t * S.players+(q:Int)) % (n:Int)).toNat) 0) 1000000 (by decide) _) ?_
   have hA7:=eY (n:=xs.getD (((t * S.players+(q:Int)) % (n:Int)).toNat) 0) hrx6 1000000 (by decide)
   refine ae 4 [] λ _=>al 22 [.nw,.nw,.nw,.nw,.nw,.own 0,.own 0,.own 0,.nw,.nw] [0 <= (aE (xs.getD (((t * S.players+(q:Int)) % (n:Int)).toNat) 0) 1000000) / 9 /\ (0:Int) < 3 /\ (aE (xs.getD (((t * S.players+(q:Int)) % (n:Int)).toNat) 0) 1000000) / 9 <= 9223372036854775807,0 <= aE (xs.getD (((t * S.players+(q:Int)) % (n:Int)).toNat) 0) 1000000 /\ (0:Int) < 9 /\ aE (xs.getD (((t * S.players+(q:Int)) % (n:Int)).toNat) 0) 1000000 <= 9223372036854775807,br ((((aE (xs.getD (((t * S.players+(q:Int)) % (n:Int)).toNat) 0) 1000000) / 3) % 3) - 1),0 <= (aE (xs.getD (((t * S.players+(q:Int)) % (n:Int)).toNat) 0) 1000000) / 3 /\ (0:Int) < 3 /\ (aE (xs.getD (((t * S.players+(q:Int)) % (n:Int)).toNat) 0) 1000000) / 3 <= 9223372036854775807,0 <= aE (xs.getD (((t * S.players+(q:Int)) % (n:Int)).toNat) 0) 1000000 /\ (0:Int) < 3 /\ aE (xs.getD (((t * S.players+(q:Int)) % (n:Int)).toNat) 0) 1000000 <= 9223372036854775807,br (((aE (xs.getD (((t * S.players+(q:Int)) % (n:Int)).toNat) 0) 1000000) % 3) - 1),0 <= aE (xs.getD (((t * S.players+(q:Int)) % (n:Int)).toNat) 0) 1000000 /\ (0:Int) < 3 /\ aE (xs.getD (((t * S.players+(q:Int)) % (n:Int)).toNat) 0) 1000000 <= 9223372036854775807] λ n8=>RN.em (((aE (xs.getD (((t * S.players+(q:Int)) % (n:Int)).toNat) 0) 1000000) / 9) % 3=0) 44 (λ h9=>?_) λ h9=>?_
   ·refine al 13 [.nw,.nw,.own 0,.own 0,.own 0,.own 0] [0 <= (aE (xs.getD (((t * S.players+(q:Int)) % (n:Int)).toNat) 0) 1000000) / 27 /\ (0:Int) < 4 /\ (aE (xs.getD (((t * S.players+(q:Int)) % (n:Int)).toNat) 0) 1000000) / 27 <= 9223372036854775807,0 <= aE (xs.getD (((t * S.players+(q:Int)) % (n:Int)).toNat) 0) 1000000 /\ (0:Int) < 27 /\ aE (xs.getD (((t * S.players+(q:Int)) % (n:Int)).toNat) 0) 1000000 <= 9223372036854775807] λ n10=>?_
    have he_:t6 S.players xs t q=(⟨((aE (xs.getD (((t * S.players+(q:Int)) % (n:Int)).toNat) 0) 1000000) % 3) - 1,(((aE (xs.getD (((t * S.players+(q:Int)) % (n:Int)).toNat) 0) 1000000) / 3) % 3) - 1,((aE (xs.getD (((t * S.players+(q:Int)) % (n:Int)).toNat) 0) 1000000) / 27) % 4⟩:Inp):=by
     unfold t6
     rw [show rowN S.players xs t q=aE (xs.getD (((t * S.players+(q:Int)) % (n:Int)).toNat) 0) 1000000 from by unfold rowN;rw [hl.len];rw [if_pos (by omega)]]
     first | rfl | (unfold vQ;simp only [if_pos h9])
    refine iu pQ (rowL S.players xs t q) [(⟨((aE (xs.getD (((t * S.players+(q:Int)) % (n:Int)).toNat) 0) 1000000) % 3) - 1,(((aE (xs.getD (((t * S.players+(q:Int)) % (n:Int)).toNat) 0) 1000000) / 3) % 3) - 1,((aE (xs.getD (((t * S.players+(q:Int)) % (n:Int)).toNat) 0) 1000000) / 27) % 4⟩:Inp)] 0 0 (fl _ _ _ _).symm hs_ (by rw [fl];show q+1 <= 100000000;omega) ?_
    rintro A11 c12 T13 ⟨hs14,hz15⟩
    refine al 9 [.nw] [br ((q:Int)+1)] λ _=>?_
    have hz2:=hz15 hz_
    refine mt3 (q+1,A11,c12,T13) [2] [0] ?_
    try dsimp only
    refine ⟨⟨by omega,?_,hz2⟩,by omega⟩
    rw [nM,he_]
    exact hs14
   ·refine ae 7 [.own 0,.own 0,.own 0] λ n16=>?_
    have he_:t6 S.players xs t q=(⟨((aE (xs.getD (((t * S.players+(q:Int)) % (n:Int)).toNat) 0) 1000000) % 3) - 1,(((aE (xs.getD (((t * S.players+(q:Int)) % (n:Int)).toNat) 0) 1000000) / 3) % 3) - 1,0⟩:Inp):=by
     unfold t6
     rw [show rowN S.players xs t q=aE (xs.getD (((t * S.players+(q:Int)) % (n:Int)).toNat) 0) 1000000 from by unfold rowN;rw [hl.len];rw [if_pos (by omega)]]
     first | rfl | (unfold vQ;simp only [if_neg h9])
    refine iu pQ (rowL S.players xs t q) [(⟨((aE (xs.getD (((t * S.players+(q:Int)) % (n:Int)).toNat) 0) 1000000) % 3) - 1,(((aE (xs.getD (((t * S.players+(q:Int)) % (n:Int)).toNat) 0) 1000000) / 3) % 3) - 1,0⟩:Inp)] 0 0 (fl _ _ _ _).symm hs_ (by rw [fl];show q+1 <= 100000000;omega) ?_
    rintro A17 c18 T19 ⟨hs20,hz21⟩
    refine al 9 [.nw] [br ((q:Int)+1)] λ _=>?_
    have hz2:=hz21 hz_
    refine mt3 (q+1,A17,c18,T19) [2] [0] ?_
    try dsimp only
    refine ⟨⟨by omega,?_,hz2⟩,by omega⟩
    rw [nM,he_]
    exact hs20
  ·refine ae 4 [] λ _=>ae 35 (ow 0 7) λ n22=>?_
   have he_:t6 S.players xs t q=(⟨(-1),(-1),0⟩:Inp):=by
    unfold t6
    rw [show rowN S.players xs t q=0 from by unfold rowN;rw [hl.len];rw [if_neg (by omega)]]
    rfl
   refine iu pQ (rowL S.players xs t q) [(⟨(-1),(-1),0⟩:Inp)] 0 0 (fl _ _ _ _).symm hs_ (by rw [fl];show q+1 <= 100000000;omega) ?_
   rintro A23 c24 T25 ⟨hs26,hz27⟩
   refine al 9 [.nw] [br ((q:Int)+1)] λ _=>?_
   have hz2:=hz27 hz_
   refine mt3 (q+1,A23,c24,T25) [2] [0] ?_
   try dsimp only
   refine ⟨⟨by omega,?_,hz2⟩,by omega⟩
   rw [nM,he_]
   exact hs26
 ·refine ae 12 [] λ _=>RN.ret [] [] [0] (v:=.slice A_ q c_) (H':=(ap [] [T_])) ?_
  have ei:q=S.players.toNat:=by omega
  subst ei
  exact ⟨(A_,c_,T_),rfl,rfl,hs_,hz_⟩
theorem oZ (a:Addr) (n c:Nat) (xs:List Bod) (F:HL) (hl:SrcIn Tryz.prog kl F (some a) n xs) (hb:n <= 100000000):Sp Tryz.prog 134 #[.slice (some a) n c] [] F (λ u H'=>∃ x:Option Addr × Nat × HL,H'=ap [] [x.2.2] /\ (u=.slice x.1 n x.2.1 /\ ClS kl 106 xs x.1 x.2.1 x.2.2)):=by
 refine Sp.run Tryz.func134 rfl mn (A:=[]) (Ts:=[]) rfl λ w0=>?_
 refine ae 19 [] λ n1=>RN.nt<|iX (A:=(some ⟨(n1+0),0,none⟩)) (B:=(some a)) (c':=c) tL xs 0 (λ a_ e_=>by cases e_;rfl) (m:=n) (tx:=23) hl.1.1.symm (by rw [hl.1.1];exact hb) (λ e_ he X w hR=>hl.2 c he X w hR) ?_
 rintro A2 c3 T4 hs5
 refine ae 3 [] λ _=>RN.ret [] [] [0] (v:=.slice A2 xs.length c3) (H':=(ap [] [T4])) ?_
 exact ⟨(A2,c3,T4),rfl,by rw [hl.1.1],_,hs5⟩
theorem o0 (c:Nat) (F:HL):Sp Tryz.prog 134 #[.slice none 0 c] [] F (λ u H'=>∃ x:Option Addr × Nat × HL,H'=ap [] [x.2.2] /\ (u=.slice x.1 0 x.2.1 /\ ClS kl 106 [] x.1 x.2.1 x.2.2)):=by
 refine Sp.run Tryz.func134 rfl mn (A:=[]) (Ts:=[]) rfl λ w0=>?_
 refine ae 18 [] λ _=>RN.ret [] [] [] (v:=.slice none 0 0) (H':=(ap [] [])) ?_
 exact ⟨(none,0,[]),rfl,rfl,.nil _ _ _⟩
theorem kI (A:Option Addr) (n c:Nat) (xs:List Bod) (F:HL) (hl:SrcIn Tryz.prog kl F A n xs) (hb:n <= 100000000):Sp Tryz.prog 134 #[.slice A n c] (ap [] []) F (λ u H'=>∃ x:Option Addr × Nat × HL,H'=ap [] [x.2.2] /\ (u=.slice x.1 n x.2.1 /\ ClS kl 106 xs x.1 x.2.1 x.2.2)):=by
 cases A with
 | some a=>exact oZ a n c xs F hl hb
 | none =>
  obtain rfl:n=0:=hl.1.2 rfl
  obtain rfl:xs=[]:=List.eq_nil_of_length_eq_zero hl.1.1
  exact o0 c F
theorem qg (a:Addr) (n c:Nat) (xs:List V2) (F:HL) (hl:SrcIn Tryz.prog kH F (some a) n xs) (hb:n <= 100000000):Sp Tryz.prog 135 #[.slice (some a) n c] [] F (λ u H'=>∃ x:Option Addr × Nat × HL,H'=ap [] [x.2.2] /\ (u=.slice x.1 n x.2.1 /\ ClS kH 29 xs x.1 x.2.1 x.2.2)):=by
 refine Sp.run Tryz.func135 rfl mn (A:=[]) (Ts:=[]) rfl λ w0=>?_
 refine ae 19 [] λ n1=>RN.nt<|iX (A:=(some ⟨(n1+0),0,none⟩)) (B:=(some a)) (c':=c) xZ xs 0 (λ a_ e_=>by cases e_;rfl) (m:=n) (tx:=99) hl.1.1.symm (by rw [hl.1.1];exact hb) (λ e_ he X w hR=>hl.2 c he X w hR) ?_
 rintro A2 c3 T4 hs5
 refine ae 3 [] λ _=>RN.ret [] [] [0] (v:=.slice A2 xs.length c3) (H':=(ap [] [T4])) ?_
 exact ⟨(A2,c3,T4),rfl,by rw [hl.1.1],_,hs5⟩
theorem qh (c:Nat) (F:HL):Sp Tryz.prog 135 #[.slice none 0 c] [] F (λ u H'=>∃ x:Option Addr × Nat × HL,H'=ap [] [x.2.2] /\ (u=.slice x.1 0 x.2.1 /\ ClS kH 29 [] x.1 x.2.1 x.2.2)):=by
 refine Sp.run Tryz.func135 rfl mn (A:=[]) (Ts:=[]) rfl λ w0=>?_
 refine ae 18 [] λ _=>RN.ret [] [] [] (v:=.slice none 0 0) (H':=(ap [] [])) ?_
 exact ⟨(none,0,[]),rfl,rfl,.nil _ _ _⟩
theorem lP (A:Option Addr) (n c:Nat) (xs:List V2) (F:HL) (hl:SrcIn Tryz.prog kH F A n xs) (hb:n <= 100000000):Sp Tryz.prog 135 #[.slice A n c] (ap [] []) F (λ u H'=>∃ x:Option Addr × Nat × HL,H'=ap [] [x.2.2] /\ (u=.slice x.1 n x.2.1 /\ ClS kH 29 xs x.1 x.2.1 x.2.2)):=by
 cases A with
 | some a=>exact qg a n c xs F hl hb
 | none =>
  obtain rfl:n=0:=hl.1.2 rfl
  obtain rfl:xs=[]:=List.eq_nil_of_length_eq_zero hl.1.1
  exact qh c F
theorem qi (a:Addr) (n c:Nat) (xs:List Bx) (F:HL) (hl:SrcIn Tryz.prog vN F (some a) n xs) (hb:n <= 100000000):Sp Tryz.prog 136 #[.slice (some a) n c] [] F (λ u H'=>∃ x:Option Addr × Nat × HL,H'=ap [] [x.2.2] /\ (u=.slice x.1 n x.2.1 /\ ClS vN 25 xs x.1 x.2.1 x.2.2)):=by
 refine Sp.run Tryz.func136 rfl mn (A:=[]) (Ts:=[]) rfl λ w0=>?_
 refine ae 19 [] λ n1=>RN.nt<|iX (A:=(some ⟨(n1+0),0,none⟩)) (B:=(some a)) (c':=c) Ec xs 0 (λ a_ e_=>by cases e_;rfl) (m:=n) (tx:=26) hl.1.1.symm (by rw [hl.1.1];exact hb) (λ e_ he X w hR=>hl.2 c he X w hR) ?_
 rintro A2 c3 T4 hs5
 refine ae 3 [] λ _=>RN.ret [] [] [0] (v:=.slice A2 xs.length c3) (H':=(ap [] [T4])) ?_
 exact ⟨(A2,c3,T4),rfl,by rw [hl.1.1],_,hs5⟩
theorem qj (c:Nat) (F:HL):Sp Tryz.prog 136 #[.slice none 0 c] [] F (λ u H'=>∃ x:Option Addr × Nat × HL,H'=ap [] [x.2.2] /\ (u=.slice x.1 0 x.2.1 /\ ClS vN 25 [] x.1 x.2.1 x.2.2)):=by
 refine Sp.run Tryz.func136 rfl mn (A:=[]) (Ts:=[]) rfl λ w0=>?_
 refine ae 18 [] λ _=>RN.ret [] [] [] (v:=.slice none 0 0) (H':=(ap [] [])) ?_
 exact ⟨(none,0,[]),rfl,rfl,.nil _ _ _⟩
theorem lQ (A:Option Addr) (n c:Nat) (xs:List Bx) (F:HL) (hl:SrcIn Tryz.prog vN F A n xs) (hb:n <= 100000000):Sp Tryz.prog 136 #[.slice A n c] (ap [] []) F (λ u H'=>∃ x:Option Addr × Nat × HL,H'=ap [] [x.2.2] /\ (u=.slice x.1 n x.2.1 /\ ClS vN 25 xs x.1 x.2.1 x.2.2)):=by
 cases A with
 | some a=>exact qi a n c xs F hl hb
 | none =>
  obtain rfl:n=0:=hl.1.2 rfl
  obtain rfl:xs=[]:=List.eq_nil_of_length_eq_zero hl.1.1
  exact qj c F
theorem o7 (a:Addr) (n c:Nat) (xs:List Dr) (F:HL) (hl:SrcIn Tryz.prog mh F (some a) n xs) (hb:n <= 100000000):Sp Tryz.prog 137 #[.slice (some a) n c] [] F (λ u H'=>∃ x:Option Addr × Nat × HL,H'=ap [] [x.2.2] /\ (u=.slice x.1 n x.2.1 /\ ClS mh 97 xs x.1 x.2.1 x.2.2)):=by
 refine Sp.run Tryz.func137 rfl mn (A:=[]) (Ts:=[]) rfl λ w0=>?_
 refine ae 19 [] λ n1=>RN.nt<|iX (A:=(some ⟨(n1+0),0,none⟩)) (B:=(some a)) (c':=c) Ed xs 0 (λ a_ e_=>by cases e_;rfl) (m:=n) (tx:=27) hl.1.1.symm (by rw [hl.1.1];exact hb) (λ e_ he X w hR=>hl.2 c he X w hR) ?_
 rintro A2 c3 T4 hs5
 refine ae 3 [] λ _=>RN.ret [] [] [0] (v:=.slice A2 xs.length c3) (H':=(ap [] [T4])) ?_
 exact ⟨(A2,c3,T4),rfl,by rw [hl.1.1],_,hs5⟩
theorem o8 (c:Nat) (F:HL):Sp Tryz.prog 137 #[.slice none 0 c] [] F (λ u H'=>∃ x:Option Addr × Nat × HL,H'=ap [] [x.2.2] /\ (u=.slice x.1 0 x.2.1 /\ ClS mh 97 [] x.1 x.2.1 x.2.2)):=by
 refine Sp.run Tryz.func137 rfl mn (A:=[]) (Ts:=[]) rfl λ w0=>?_
 refine ae 18 [] λ _=>RN.ret [] [] [] (v:=.slice none 0 0) (H':=(ap [] [])) ?_
 exact ⟨(none,0,[]),rfl,rfl,.nil _ _ _⟩
theorem kJ (A:Option Addr) (n c:Nat) (xs:List Dr) (F:HL) (hl:SrcIn Tryz.prog mh F A n xs) (hb:n <= 100000000):Sp Tryz.prog 137 #[.slice A n c] (ap [] []) F (λ u H'=>∃ x:Option Addr × Nat × HL,H'=ap [] [x.2.2] /\ (u=.slice x.1 n x.2.1 /\ ClS mh 97 xs x.1 x.2.1 x.2.2)):=by
 cases A with
 | some a=>exact o7 a n c xs F hl hb
 | none =>
  obtain rfl:n=0:=hl.1.2 rfl
  obtain rfl:xs=[]:=List.eq_nil_of_length_eq_zero hl.1.1
  exact o8 c F
theorem qk (a:Addr) (n c:Nat) (xs:List Ins) (F:HL) (hl:SrcIn Tryz.prog kG F (some a) n xs) (hb:n <= 100000000):Sp Tryz.prog 43 #[.slice (some a) n c] [] F (λ u H'=>∃ x:Option Addr × Nat × HL,H'=ap [] [x.2.2] /\ (u=.slice x.1 n x.2.1 /\ ClS kG 129 xs x.1 x.2.1 x.2.2)):=by
 refine Sp.run Tryz.func43 rfl mn (A:=[]) (Ts:=[]) rfl λ w0=>?_
 refine ae 19 [] λ n1=>RN.nt<|iX (A:=(some ⟨(n1+0),0,none⟩)) (B:=(some a)) (c':=c) Dt xs 0 (λ a_ e_=>by cases e_;rfl) (m:=n) (tx:=44) hl.1.1.symm (by rw [hl.1.1];exact hb) (λ e_ he X w hR=>hl.2 c he X w hR) ?_
 rintro A2 c3 T4 hs5
 refine ae 3 [] λ _=>RN.ret [] [] [0] (v:=.slice A2 xs.length c3) (H':=(ap [] [T4])) ?_
 exact ⟨(A2,c3,T4),rfl,by rw [hl.1.1],_,hs5⟩
theorem ql (c:Nat) (F:HL):Sp Tryz.prog 43 #[.slice none 0 c] [] F (λ u H'=>∃ x:Option Addr × Nat × HL,H'=ap [] [x.2.2] /\ (u=.slice x.1 0 x.2.1 /\ ClS kG 129 [] x.1 x.2.1 x.2.2)):=by
 refine Sp.run Tryz.func43 rfl mn (A:=[]) (Ts:=[]) rfl λ w0=>?_
 refine ae 18 [] λ _=>RN.ret [] [] [] (v:=.slice none 0 0) (H':=(ap [] [])) ?_
 exact ⟨(none,0,[]),rfl,rfl,.nil _ _ _⟩
theorem rE (A:Option Addr) (n c:Nat) (xs:List Ins) (F:HL) (hl:SrcIn Tryz.prog kG F A n xs) (hb:n <= 100000000):Sp Tryz.prog 43 #[.slice A n c] (ap [] []) F (λ u H'=>∃ x:Option Addr × Nat × HL,H'=ap [] [x.2.2] /\ (u=.slice x.1 n x.2.1 /\ ClS kG 129 xs x.1 x.2.1 x.2.2)):=by
 cases A with
 | some a=>exact qk a n c xs F hl hb
 | none =>
  obtain rfl:n=0:=hl.1.2 rfl
  obtain rfl:xs=[]:=List.eq_nil_of_length_eq_zero hl.1.1
  exact ql c F
theorem nN (a:Addr) (n c:Nat) (xs:List Inp) (F:HL) (hl:SrcIn Tryz.prog gC F (some a) n xs) (hb:n <= 100000000):Sp Tryz.prog 112 #[.slice (some a) n c] [] F (λ u H'=>∃ x:Option Addr × Nat × HL,H'=ap [] [x.2.2] /\ (u=.slice x.1 n x.2.1 /\ ClS gC 151 xs x.1 x.2.1 x.2.2)):=by
 refine Sp.run Tryz.func112 rfl mn (A:=[]) (Ts:=[]) rfl λ w0=>?_
 refine ae 19 [] λ n1=>RN.nt<|iX (A:=(some ⟨(n1+0),0,none⟩)) (B:=(some a)) (c':=c) pQ xs 0 (λ a_ e_=>by cases e_;rfl) (m:=n) (tx:=56) hl.1.1.symm (by rw [hl.1.1];exact hb) (λ e_ he X w hR=>hl.2 c he X w hR) ?_
 rintro A2 c3 T4 hs5
 refine ae 3 [] λ _=>RN.ret [] [] [0] (v:=.slice A2 xs.length c3) (H':=(ap [] [T4])) ?_
 exact ⟨(A2,c3,T4),rfl,by rw [hl.1.1],_,hs5⟩
theorem nO (c:Nat) (F:HL):Sp Tryz.prog 112 #[.slice none 0 c] [] F (λ u H'=>∃ x:Option Addr × Nat × HL,H'=ap [] [x.2.2] /\ (u=.slice x.1 0 x.2.1 /\ ClS gC 151 [] x.1 x.2.1 x.2.2)):=by
 refine Sp.run Tryz.func112 rfl mn (A:=[]) (Ts:=[]) rfl λ w0=>?_
 refine ae 18 [] λ _=>RN.ret [] [] [] (v:=.slice none 0 0) (H':=(ap [] [])) ?_
 exact ⟨(none,0,[]),rfl,rfl,.nil _ _ _⟩
theorem o9 (A:Option Addr) (n c:Nat) (xs:List Inp) (F:HL) (hl:SrcIn Tryz.prog gC F A n xs) (hb:n <= 100000000):Sp Tryz.prog 112 #[.slice A n c] (ap [] []) F (λ u H'=>∃ x:Option Addr × Nat × HL,H'=ap [] [x.2.2] /\ (u=.slice x.1 n x.2.1 /\ ClS gC 151 xs x.1 x.2.1 x.2.2)):=by
 cases A with
 | some a=>exact nN a n c xs F hl hb
 | none =>
  obtain rfl:n=0:=hl.1.2 rfl
  obtain rfl:xs=[]:=List.eq_nil_of_length_eq_zero hl.1.1
  exact nO c F
end Go.Proofs.YtghjbimijeinfaaGreatDoor
