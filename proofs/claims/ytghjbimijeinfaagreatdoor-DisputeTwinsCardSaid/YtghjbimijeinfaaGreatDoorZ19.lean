import Derived.Test.YtghjbimijeinfaaGreatDoorZ18
set_option maxHeartbeats 4000000
set_option maxRecDepth 100000
set_option linter.unusedSimpArgs false
set_option linter.unusedVariables false
namespace Go.Proofs.YtghjbimijeinfaaGreatDoor
open Go.RowKit
def Hy (xs:List Int):Int:=1+kv xs 0 % 3
def pV (xs:List Int):Int:=Hy xs+kv xs 3 / 3 % 3
def bN (xs:List Int) (i:Nat):Int:=kv xs (4+2 * i)
def bM (xs:List Int) (i:Nat):Int:=kv xs (5+2 * i)
def sa (xs:List Int) (i:Nat) (A:Option Addr) (c:Nat):Bod:=⟨⟨(cC (bN xs i)).1,(cC (bN xs i)).2,A,c⟩,⟨((((bN xs i) / 1000) % 13) - 6) * 900,((((bM xs i) / 50) % 11) - 5) * 800,((((bM xs i) / 550) % 9) - 4) * 300,((((bN xs i) / 13000) % 9) - 4) * 300,([1024,1024,512,2048,0]:List Int).getD (((bM xs i) / 5000) % 5).toNat 0⟩,(bM xs i) % 50,(bN xs i) % 7⟩
def vw (a b c:Nat) (i:Nat):Option Addr:=match i with | 0=>some ⟨a,0,none⟩ | 1=>some ⟨b,0,none⟩ | _=>some ⟨c,0,none⟩
def jl (i:Nat):Nat:=match i with | 0=>0 | 1=>1 | _=>2
def zF (a b c:Nat):Nat -> Nat -> Value:=λ i _=>.slice (vw a b c i) (jl i) (jl i)
theorem pW {F:HL} {A:Option Addr} {n:Nat} {xs:List Int} (h:ArgL F A n xs):1 <= Hy xs /\ Hy xs <= 3:=by
 have:=gI h 0
 unfold Hy;omega
theorem mV {F:HL} {A:Option Addr} {n:Nat} {xs:List Int} (h:ArgL F A n xs):1 <= pV xs /\ pV xs <= 5 /\ Hy xs <= pV xs:=by
 have:=gI h 0
 have:=gI h 3
 unfold pV Hy;omega
theorem D6 {xs rest:List Int} {n i:Nat} (h:i < n):(ks xs n++rest).getD i 0=kv xs i:=by
 rw [List.getD_eq_getElem?_getD,List.getElem?_append_left (by rw [l8];exact h),<- List.getD_eq_getElem?_getD,Kk h]
theorem pX {α:Type} {l r:List α} {i:Nat} {d:α} (h:i < l.length):(l++r).getD i d=l.getD i d:=by
 rw [List.getD_eq_getElem?_getD,List.getElem?_append_left h,<- List.getD_eq_getElem?_getD]
theorem sd {α:Type} {l:List α} {x d:α}:(l++[x]).getD l.length d=x:=by simp
theorem ShH.left {s:Shp} {T X:HL} (h:ShH s T):ShH s (T++X):=λ F hF=>h F λ x hx=>hF x (List.mem_append_left _ hx)
theorem ShH.right {s:Shp} {T X:HL} (h:ShH s X):ShH s (T++X):=λ F hF=>h F λ x hx=>hF x (List.mem_append_right _ hx)
theorem xN {F:HL} {a b c:Nat} (hb:(b,.rows 2 1 (cK l9 (kf 1)) 97 (0,0)) ∈ F) (hc:(c,.rows 2 2 (cK l9 (kf 2)) 97 (0,0)) ∈ F):∀ i:Nat,RowL l9 97 F (vw a b c i) (jl i) (kf i)
 | 0=>.zero _
 | 1=>RowL.whole (xs:=kf 1) hb (Nat.le_refl _)
 | _+2=>RowL.whole (xs:=kf 2) hc (Nat.le_refl _)
structure SetG (xs:List Int) (S:Setup) (T:HL):Prop where
 pl:S.players=Hy xs
 nb:(S.nb:Int)=pV xs
 bo:S.bo=0
 cap:S.nb <= S.bc
 room:S.bo+S.nb <= S.bR
 nums:S.box=⟨-12000,-9000,12000,9000⟩ /\ S.fog=4000+(kv xs 1 % 9) * 1000 /\ S.g=⟨0,(-((kv xs 2 / 36) % 3)) * 40⟩ /\ S.push=((kv xs 1 / 9) % 5) * 100 /\ S.drag=(kv xs 2 % 4) * 100 /\ S.rest=((kv xs 2 / 4) % 3) * 512 /\ S.rounds=1+(kv xs 2 / 12) % 3 /\ S.fuel=60
 bod:∀ j,j < S.nb -> ∃ A c,S.body j=sa xs j A c
 sin:∀ F,(S.bb,.rows 9 S.bR (fM S.bods) 106 (0,0)) ∈ F -> (∀ x ∈ T,x ∈ F) -> SetIn F S
 maps:(S.rn=3 /\ S.dn=jl (kv xs 3 % 3).toNat) /\ ∀ F,(∀ x ∈ T,x ∈ F) -> MapIn F S rj (kf (kv xs 3 % 3).toNat)
theorem BM (A:Option Addr) (n cap:Nat) (xs:List Int) (F:HL) (hl:ArgL F A n xs) (hn:n <= 9223372036854775807):Sp Tryz.prog 7 #[.slice A n cap] [] F (λ u H'=>∃ x:Setup × HL,H'=ap [(x.1.bb,.rows 9 x.1.bR (fM x.1.bods) 106 (0,0))] [x.2] /\ (u=Setup.v x.1 /\ SetG xs x.1 x.2)):=by
 refine Sp.run Tryz.func7 rfl mn (A:=[]) (Ts:=[]) rfl λ w0=>?_
 refine ae 17 [] λ n1=>RN.nt<|RN.loop (σ:=Nat × Option Addr × Nat × HL) (λ ⟨i,A_,c_,T_⟩=>⟨[(0,.slice A n cap),(2,vP (n1+0) 0),(3,.slice A_ i c_),(4,vI (i:Int))],[((n1+0),.lit [vI 0,.slice none 0 0,vI 0,vI 0,vI 0,vI 0,.slice none 0 0,.slice none 0 0,vI 0,vI 0,vI 0,vI 0,vI 0,vI 0,vI 0,vI 0] 31 (0,0))],[T_],i <= 24 /\ SlIs tI 3 (ks xs i) A_ c_ T_ /\ cM A_,24 - i⟩) (0,none,0,[]) [0] [0] (⟨Nat.zero_le _,SlIs.nil _ _,trivial⟩) ?_
 rintro ⟨i,A_,c_,T_⟩ ⟨hi_,hs_,hz_⟩ mt3
 refine ae 7 [] λ _=>RN.em ((i:Int) < 24) 12 (λ h4=>?_) λ h4=>?_
 ·refine ae 19 [] λ _=>RN.em ((i:Int) < (n:Int)) 18 (λ h5=>?_) λ h5=>?_
  ·refine ae 4 [] λ _=>?_
   obtain ⟨qx6,ox6,Nx6,gx6,tyx6,fzx6,hAx6,hqx6,hox6,hgx6,hrx6⟩:=hl.at (k:=i) (by omega)
   refine bJ 19 (congrArg (λ v_=>(.slice v_ n cap:Value)) hAx6)<|RN.ro (λ _=>(mc hqx6 mn))<|al 2 [.ix i,.rorow 0 (ox6+i) 0] [(ox6+i * 1)=(ox6+i) * 1+0 /\ (ox6+i) < Nx6,(i:Int)=((i:Nat):Int) /\ i < n] λ _=>bJ 22 (congrArg (λ v_=>(v_:Value)) hgx6)<|aj (eJ (xs.getD i 0) 1000000 (by decide) _) ?_
   have hA7:=dw (n:=xs.getD i 0) hrx6 1000000 (by decide)
   refine ae 7 [] λ n8=>ij xL (ks xs i) [au (xs.getD i 0) 1000000] 0 0 (l8 xs i).symm hs_ (by rw [l8];show i+1 <= 100000000;omega) ?_
   rintro A9 c10 T11 ⟨hs12,hz13⟩
   refine al 9 [.nw] [bq ((i:Int)+1)] λ _=>?_
   have hz2:=hz13 hz_
   refine mt3 (i+1,A9,c10,T11) [1] [0] ?_
   try dsimp only
   refine ⟨⟨by omega,?_,hz2⟩,by omega⟩
   rw [zE,show kv xs i=_ from by unfold kv;rw [if_pos (by rw [hl.len];omega)]]
   exact hs12
  ·refine ae 7 [] λ n14=>ij xL (ks xs i) [0] 0 0 (l8 xs i).symm hs_ (by rw [l8];show i+1 <= 100000000;omega) ?_
   rintro A15 c16 T17 ⟨hs18,hz19⟩
   refine al 9 [.nw] [bq ((i:Int)+1)] λ _=>?_
   have hz2:=hz19 hz_
   refine mt3 (i+1,A15,c16,T17) [1] [0] ?_
   try dsimp only
   refine ⟨⟨by omega,?_,hz2⟩,by omega⟩
   rw [zE,show kv xs i=_ from by unfold kv;rw [if_neg (by rw [hl.len];omega)]]
   exact hs18
 ·refine ae 7 [] λ _=>?_
  have ei:i=24:=by omega
  subst ei
  obtain ⟨kb,rest,rfl,rfl,hcap0⟩:=hs_.open0 hz_ (by decide) (by rw [l8];decide)
  have hcap:24 <= c_:=by rw [l8] at hcap0;exact hcap0
  refine zl 0 (x:=(kb,.rows 1 c_ (cK tI (ks xs 24++rest)) 3 (0,0))) ?_
  have hk0:=gI hl 0
  have hk1:=gI hl 1
  have hk2:=gI hl 2
  have hk3:=gI hl 3
  have hse:pV xs=1+kv xs 0 % 3+kv xs 3 / 3 % 3:=rfl
  have hsc:=mV hl
  have hsp:=pW hl
  refine RN.draw [37] []<|aJ [] [0,5,6,12,18,23,29,1,7,13,19,24,30,2,8,14,20,25,31,3,9,15,21,26,32,4,10,16,22,27,33,11,17,28,34,35] [.row 0 0 0,.row 0 1 0,.row 0 1 0,.row 0 2 0,.row 0 2 0,.row 0 2 0,.nw,.nw,.nw,.nw,.nw,.nw,.nw,.nw,.nw,.nw,.nw,.nw,.nw,.nw,.nw,.nw] [bq (1+(((kv xs 2) / 12) % 3)),bq ((((kv xs 2) / 4) % 3) * 512),bq ((((kv xs 1) / 9) % 5) * 100),bq (4000+(((kv xs 1) % 9) * 1000)),0 <= (kv xs 2) / 12 /\ (0:Int) < 3 /\ (kv xs 2) / 12 <= 9223372036854775807,0 <= (kv xs 2) / 4 /\ (0:Int) < 3 /\ (kv xs 2) / 4 <= 9223372036854775807,bq (((kv xs 2) % 4) * 100),0 <= (kv xs 1) / 9 /\ (0:Int) < 5 /\ (kv xs 1) / 9 <= 9223372036854775807,bq (((kv xs 1) % 9) * 1000),bq (1+((kv xs 0) % 3)),0 <= kv xs 2 /\ (0:Int) < 12 /\ kv xs 2 <= 9223372036854775807,0 <= kv xs 2 /\ (0:Int) < 4 /\ kv xs 2 <= 9223372036854775807,0 <= kv xs 2 /\ (0:Int) < 4 /\ kv xs 2 <= 9223372036854775807,0 <= kv xs 1 /\ (0:Int) < 9 /\ kv xs 1 <= 9223372036854775807,0 <= kv xs 1 /\ (0:Int) < 9 /\ kv xs 1 <= 9223372036854775807,0 <= kv xs 0 /\ (0:Int) < 3 /\ kv xs 0 <= 9223372036854775807,2=2 * 1+0 /\ 2 < c_,2=2 * 1+0 /\ 2 < c_,2=2 * 1+0 /\ 2 < c_,1=1 * 1+0 /\ 1 < c_,1=1 * 1+0 /\ 1 < c_,0=0 * 1+0 /\ 0 < c_]<|RD.one 36 (RDO.ev [] [] λ n20=>?_)
  refine RD.one 37 (RDO.ev [] (ow 0 16) λ _=>?_)
  refine RD.fin<|al 38 [.row 1 2 0,.nw,.nw,.nw,.nw,.own 0,.own 0,.own 1,.row 6 3 0,.nw] [0 <= kv xs 3 /\ (0:Int) < 3 /\ kv xs 3 <= 9223372036854775807,3=3 * 1+0 /\ 3 < c_,bq ((-(((kv xs 2) / 36) % 3)) * 40),-9223372036854775807 <= ((kv xs 2) / 36) % 3 /\ ((kv xs 2) / 36) % 3 <= 9223372036854775808,0 <= (kv xs 2) / 36 /\ (0:Int) < 3 /\ (kv xs 2) / 36 <= 9223372036854775807,0 <= kv xs 2 /\ (0:Int) < 36 /\ kv xs 2 <= 9223372036854775807,2=2 * 1+0 /\ 2 < c_] λ n21=>RN.dn 0 (.rows 1 3 (zF (n21+1) (n21+2) (n21+3)) 27 (0,0))<|al 13 [.ix (((kv xs 3) % 3).toNat),.row 0 (((kv xs 3) % 3).toNat) 0,.own 5] [(0+(((kv xs 3) % 3).toNat) * 1)=(((kv xs 3) % 3).toNat) * 1+0 /\ (((kv xs 3) % 3).toNat) < 3,(kv xs 3) % 3=((((kv xs 3) % 3).toNat:Nat):Int) /\ ((kv xs 3) % 3).toNat < 3] λ _=>RN.nt<|RN.nt<|RN.loop (σ:=Nat × List Bod × Option Addr × Nat × HL × HL) (λ ⟨j,bods,B_,d_,V_,U_⟩=>⟨[(2,vP (n1+0) 0),(3,vS kb 0 24 c_),(6,vP (n20+0) 0),(7,vI (j:Int))],[((n21+4),.rows 1 3 (zF (n21+1) (n21+2) (n21+3)) 27 (0,0)),((n21+3),.lit [vI 0,vI 2,vI 1,vI 2] 97 (0,0)),((n21+2),.lit [vI 0,vI 1] 97 (0,0)),((n21+1),.lit [] 97 (0,0)),((n21+0),.lit [vI (-12000),vI (-9000),vI (-1),vI 9000,vI 0,vI 0,vI 12000,vI 9000,vI 0,vI (-9000),vI 12000,vI (-1)] 25 (0,0)),((n20+0),.lit [vI (1+((kv xs 0) % 3)),.slice B_ j d_,vI (-12000),vI (-9000),vI 12000,vI 9000,vS (n21+0) 0 3 3,.slice (vw (n21+1) (n21+2) (n21+3) (((kv xs 3) % 3).toNat)) (jl (((kv xs 3) % 3).toNat)) (jl (((kv xs 3) % 3).toNat)),vI (4000+(((kv xs 1) % 9) * 1000)),vI 0,vI ((-(((kv xs 2) / 36) % 3)) * 40),vI ((((kv xs 1) / 9) % 5) * 100),vI (((kv xs 2) % 4) * 100),vI ((((kv xs 2) / 4) % 3) * 512),vI (1+(((kv xs 2) / 12) % 3)),vI 60] 31 (0,0)),(kb,.rows 1 c_ (cK tI (ks xs 24++rest)) 3 (0,0)),((n1+0),.lit [vI 0,.slice none 0 0,vI 0,vI 0,vI 0,vI 0,.slice none 0 0,.slice none 0 0,vI 0,vI 0,vI 0,vI 0,vI 0,vI 0,vI 0,vI 0] 31 (0,0))],[V_,U_],(j:Int) <= pV xs /\ bods.length=j /\ (∀ t,t < j -> ∃ A c,bods.getD t dB=sa xs t A c) /\ (∀ t,t < j -> ShH (bods.getD t dB).sh U_) /\ SlIs ke 106 bods B_ d_ V_ /\ cM B_,(pV xs).toNat - j⟩) (0,[],none,0,[],[]) [0,1,2,3,4,5,6,7] [0,1] (⟨by show (0:Int) <= _;omega,rfl,λ t ht=>absurd ht (Nat.not_lt_zero _),λ t ht=>absurd ht (Nat.not_lt_zero _),SlIs.nil _ _,trivial⟩) ?_
  rintro ⟨j,bods,B_,d_,V_,U_⟩ ⟨hj_,hbl_,hb_,hsh_,hs2_,hz2_⟩ mt23
  refine ae 2 [] λ _=>RN.draw [] []<|aJ [] [0,1,3,2,4,5,6,7,8,9] [.own 5,.row 6 3 0,.nw,.nw,.nw] [bq ((1+((kv xs 0) % 3))+(((kv xs 3) / 3) % 3)),0 <= (kv xs 3) / 3 /\ (0:Int) < 3 /\ (kv xs 3) / 3 <= 9223372036854775807,0 <= kv xs 3 /\ (0:Int) < 3 /\ kv xs 3 <= 9223372036854775807,3=3 * 1+0 /\ 3 < c_]<|RD.fin<|ae 1 [] λ _=>RN.em ((j:Int) < (1+((kv xs 0) % 3))+(((kv xs 3) / 3) % 3)) 101 (λ h24=>?_) λ h24=>?_
  ·refine al 13 [.nw,.nw,.ix ((4+(2 * (j:Int))).toNat),.row 6 ((4+(2 * (j:Int))).toNat) 0] [(0+((4+(2 * (j:Int))).toNat) * 1)=((4+(2 * (j:Int))).toNat) * 1+0 /\ ((4+(2 * (j:Int))).toNat) < c_,4+(2 * (j:Int))=(((4+(2 * (j:Int))).toNat:Nat):Int) /\ (4+(2 * (j:Int))).toNat < 24,bq (4+(2 * (j:Int))),bq (2 * (j:Int))] λ _=>bJ 109 (congrArg (λ v_=>(vI v_:Value)) (D6 (xs:=xs) (rest:=rest) (n:=24) (i:=4+2 * j) (by omega))) ?_
   have hbN:=gI hl (4+2 * j)
   rw [show kv xs (4+2 * j)=bN xs j from rfl] at hbN
   refine al 11 [.nw,.nw,.ix ((5+(2 * (j:Int))).toNat),.row 6 ((5+(2 * (j:Int))).toNat) 0] [(0+((5+(2 * (j:Int))).toNat) * 1)=((5+(2 * (j:Int))).toNat) * 1+0 /\ ((5+(2 * (j:Int))).toNat) < c_,5+(2 * (j:Int))=(((5+(2 * (j:Int))).toNat:Nat):Int) /\ (5+(2 * (j:Int))).toNat < 24,bq (5+(2 * (j:Int))),bq (2 * (j:Int))] λ _=>bJ 115 (congrArg (λ v_=>(vI v_:Value)) (D6 (xs:=xs) (rest:=rest) (n:=24) (i:=5+2 * j) (by omega))) ?_
   have hbM:=gI hl (5+2 * j)
   rw [show kv xs (5+2 * j)=bM xs j from rfl] at hbM
   refine ae 6 [] λ _=>RN.ct (Hp:=[]) (Tp:=[]) [] [] (vt (bN xs j) _) ?_
   rintro _ ⟨A25,c26,T27⟩ ⟨rfl,hsh28⟩
   dsimp only at hsh28
   refine al 37 ([.nw,.nw]++ow 0 9++[.nw,.nw,.nw,.nw,.nw,.nw,.nw,.nw,.nw,.nw,.nw,.nw,.nw,.nw,.nw,.nw,.nw,.nw]) [0 <= (bM xs j) / 5000 /\ (0:Int) < 5 /\ (bM xs j) / 5000 <= 9223372036854775807,0 <= bM xs j /\ (0:Int) < 5000 /\ bM xs j <= 9223372036854775807,bq (((((bN xs j) / 13000) % 9) - 4) * 300),bq ((((bN xs j) / 13000) % 9) - 4),0 <= (bN xs j) / 13000 /\ (0:Int) < 9 /\ (bN xs j) / 13000 <= 9223372036854775807,0 <= bN xs j /\ (0:Int) < 13000 /\ bN xs j <= 9223372036854775807,bq (((((bM xs j) / 550) % 9) - 4) * 300),bq ((((bM xs j) / 550) % 9) - 4),0 <= (bM xs j) / 550 /\ (0:Int) < 9 /\ (bM xs j) / 550 <= 9223372036854775807,0 <= bM xs j /\ (0:Int) < 550 /\ bM xs j <= 9223372036854775807,bq (((((bM xs j) / 50) % 11) - 5) * 800),bq ((((bM xs j) / 50) % 11) - 5),0 <= (bM xs j) / 50 /\ (0:Int) < 11 /\ (bM xs j) / 50 <= 9223372036854775807,0 <= bM xs j /\ (0:Int) < 50 /\ bM xs j <= 9223372036854775807,bq (((((bN xs j) / 1000) % 13) - 6) * 900),bq ((((bN xs j) / 1000) % 13) - 6),0 <= (bN xs j) / 1000 /\ (0:Int) < 13 /\ (bN xs j) / 1000 <= 9223372036854775807,0 <= bN xs j /\ (0:Int) < 1000 /\ bN xs j <= 9223372036854775807,0 <= bN xs j /\ (0:Int) < 7 /\ bN xs j <= 9223372036854775807,0 <= bM xs j /\ (0:Int) < 50 /\ bM xs j <= 9223372036854775807] λ n29=>RN.dn 0 (.rows 1 5 (aK [1024,1024,512,2048,0]) 3 (0,0))<|al 12 ([.ix ((((bM xs j) / 5000) % 5).toNat),.row 0 ((((bM xs j) / 5000) % 5).toNat) 0]++ow 1 5++[.own 7]++ow 1 9) [(0+((((bM xs j) / 5000) % 5).toNat) * 1)=((((bM xs j) / 5000) % 5).toNat) * 1+0 /\ ((((bM xs j) / 5000) % 5).toNat) < 5,((bM xs j) / 5000) % 5=(((((bM xs j) / 5000) % 5).toNat:Nat):Int) /\ (((bM xs j) / 5000) % 5).toNat < 5] λ n30=>ij ti bods [sa xs j A25 c26] 1 0 hbl_.symm hs2_ (by rw [hbl_];show j+1 <= 100000000;omega) ?_
   rintro A31 c32 T33 ⟨hs34,hz35⟩
   refine al 10 [.own 8,.nw] [bq ((j:Int)+1)] λ _=>?_
   have hz2:=hz35 hz2_
   refine ou [2,1,0]<|pH ?_
   refine mt23 (j+1,bods++[(sa xs j A25 c26)],A31,c32,T33,U_++T27) [3,4,5,6,7,8,9,10] [1,0] ?_
   try dsimp only
   refine ⟨⟨by omega,by rw [List.length_append,hbl_];rfl,?_,?_,hs34,hz2⟩,by omega⟩
   ·intro t ht
    rcases Nat.lt_or_ge t j with h | h
    ·rw [pX (by omega)];exact hb_ t h
    ·have:t=bods.length:=by omega
     subst this
     rw [sd,hbl_];exact ⟨_,_,rfl⟩
   ·intro t ht
    rcases Nat.lt_or_ge t j with h | h
    ·rw [pX (by omega)];exact (hsh_ t h).left
    ·have:t=bods.length:=by omega
     subst this
     rw [sd];exact ShH.right hsh28
  ·refine ae 7 [] λ _=>?_
   have ej:(j:Int)=pV xs:=by unfold pV Hy;unfold pV Hy at hj_;omega
   obtain ⟨bb,rest2,rfl,rfl,hcap2⟩:=hs2_.open0 hz2_ (by decide) (by rw [hbl_];omega)
   refine zl 0 (x:=(bb,.rows 9 d_ (cK ke (bods++rest2)) 106 (0,0)))<|ae 5 (ow 6 16++ow 8 16) λ _=>RN.dn 5 (.rows 4 3 (cK vu rj) 25 (0,0))<|RN.dn 3 (.rows 2 1 (cK l9 (kf 1)) 97 (0,0))<|RN.dn 2 (.rows 2 2 (cK l9 (kf 2)) 97 (0,0))<|RN.ret (ow 8 16) [0,5,3,2] [0] (v:=.agg #[vI (1+((kv xs 0) % 3)),vS bb 0 j d_,vI (-12000),vI (-9000),vI 12000,vI 9000,vS (n21+0) 0 3 3,.slice (vw (n21+1) (n21+2) (n21+3) (((kv xs 3) % 3).toNat)) (jl (((kv xs 3) % 3).toNat)) (jl (((kv xs 3) % 3).toNat)),vI (4000+(((kv xs 1) % 9) * 1000)),vI 0,vI ((-(((kv xs 2) / 36) % 3)) * 40),vI ((((kv xs 1) / 9) % 5) * 100),vI (((kv xs 2) % 4) * 100),vI ((((kv xs 2) / 4) % 3) * 512),vI (1+(((kv xs 2) / 12) % 3)),vI 60]) (H':=(ap [(bb,.rows 9 d_ (cK ke (bods++rest2)) 106 (0,0)),((n21+0),.rows 4 3 (cK vu rj) 25 (0,0)),((n21+2),.rows 2 1 (cK l9 (kf 1)) 97 (0,0)),((n21+3),.rows 2 2 (cK l9 (kf 2)) 97 (0,0))] [U_])) ?_
   have hbod:∀ k,k < j -> (bods++rest2).getD (0+k) dB=bods.getD k dB:=λ k hk=>by rw [Nat.zero_add,pX (by omega)]
   refine ⟨((⟨1+((kv xs 0) % 3),bb,0,j,d_,d_,bods++rest2,⟨-12000,-9000,12000,9000⟩,some ⟨(n21+0),0,none⟩,3,3,vw (n21+1) (n21+2) (n21+3) (kv xs 3 % 3).toNat,jl (kv xs 3 % 3).toNat,jl (kv xs 3 % 3).toNat,4000+(((kv xs 1) % 9) * 1000),⟨0,(-(((kv xs 2) / 36) % 3)) * 40⟩,(((kv xs 1) / 9) % 5) * 100,((kv xs 2) % 4) * 100,(((kv xs 2) / 4) % 3) * 512,1+(((kv xs 2) / 12) % 3),60⟩:Setup),[((n21+0),.rows 4 3 (cK vu rj) 25 (0,0)),((n21+2),.rows 2 1 (cK l9 (kf 1)) 97 (0,0)),((n21+3),.rows 2 2 (cK l9 (kf 2)) 97 (0,0))]++U_),(by simp [ap]),rfl,?_⟩
   refine ⟨rfl,ej,rfl,(by rw [hbl_] at hcap2;exact hcap2),(by rw [hbl_] at hcap2;show 0+j <= d_;omega),⟨rfl,rfl,rfl,rfl,rfl,rfl,rfl,rfl⟩,λ k hk=>?_,λ F hbF hF=>⟨⟨by show (0:Int) <= 1+kv xs 0 % 3 /\ 1+kv xs 0 % 3 <= 1000000;omega,by show j <= 1000000;omega⟩,hbF,by show 0+j <= d_;rw [hbl_] at hcap2;omega,λ k hk=>?_⟩,⟨⟨rfl,rfl⟩,λ F hF=>⟨RowL.whole (xs:=rj) (hF _ (List.mem_append_left _ (List.mem_cons_self))) (Nat.le_refl _),xN (hF _ (List.mem_append_left _ (List.mem_cons_of_mem _ (List.mem_cons_self)))) (hF _ (List.mem_append_left _ (List.mem_cons_of_mem _ (List.mem_cons_of_mem _ (List.mem_cons_self))))) _⟩⟩⟩
   ·obtain ⟨A,c,h⟩:=hb_ k hk
    exact ⟨A,c,by show (bods++rest2).getD (0+k) dB=_;rw [hbod k hk];exact h⟩
   ·show ShIn F ((bods++rest2).getD (0+k) dB).sh
    rw [hbod k hk]
    exact hsh_ k hk F λ x hx=>hF x (by simp [hx])
def rowN (pl:Int) (xs:List Int) (t:Int) (q:Nat):Int:=if xs.length > 0 then au (xs.getD ((t * pl+(q:Int)) % (xs.length:Int)).toNat 0) 1000000 else 0
def vz (n:Int):Inp:=⟨n % 3 - 1,n / 3 % 3 - 1,if n / 9 % 3=0 then n / 27 % 4 else 0⟩
def tJ (pl:Int) (xs:List Int) (t:Int) (q:Nat):Inp:=vz (rowN pl xs t q)
def rowL (pl:Int) (xs:List Int) (t:Int) (n:Nat):List Inp:=(List.range n).map (tJ pl xs t)
theorem fh (pl:Int) (xs:List Int) (t:Int) (n:Nat):(rowL pl xs t n).length=n:=by simp [rowL]
theorem nF (pl:Int) (xs:List Int) (t:Int) (n:Nat):rowL pl xs t (n+1)=rowL pl xs t n++[tJ pl xs t n]:=by simp [rowL,List.range_succ]
theorem D7 {pl:Int} {xs:List Int} {t:Int} {n i:Nat} (h:i < n):(rowL pl xs t n).getD i dI=tJ pl xs t i:=by simp [rowL,h]
theorem Hz {F:HL} {A:Option Addr} {n:Nat} {xs:List Int} (h:ArgL F A n xs) (pl t:Int) (q:Nat):0 <= rowN pl xs t q /\ rowN pl xs t q < 1000000:=by
 unfold rowN
 split
 ·next hi =>
  rw [h.len] at hi
  have h1:=Int.emod_nonneg (t * pl+(q:Int)) (show (n:Int) ≠ 0 by omega)
  have h2:=Int.emod_lt_of_pos (t * pl+(q:Int)) (show (0:Int) < n by omega)
  rw [h.len]
  obtain ⟨_,_,_,_,_,_,_,_,_,_,hr⟩:=h.at (k:=((t * pl+(q:Int)) % (n:Int)).toNat) (by omega)
  exact dw hr 1000000 (by decide)
 ·omega
theorem HA (S:Setup) (A:Option Addr) (n cap:Nat) (xs:List Int) (t:Int) (F:HL) (hl:ArgL F A n xs) (hn:n <= 9223372036854775807) (hp:0 <= S.players /\ S.players <= 1000000) (ht:0 <= t /\ t <= 1000000):Sp Tryz.prog 39 #[(Setup.v S),.slice A n cap,vI t] [] F (λ u H'=>∃ x:Option Addr × Nat × HL,H'=ap [] [x.2.2] /\ (u=.slice x.1 S.players.toNat x.2.1 /\ SlIs gw 151 (rowL S.players xs t S.players.toNat) x.1 x.2.1 x.2.2 /\ cM x.1)):=by
 have hm:0 <= t * S.players /\ t * S.players <= 1000000000000:=⟨Int.mul_nonneg ht.1 hp.1,Int.le_trans (Int.mul_le_mul ht.2 hp.2 hp.1 (by decide)) (by decide)⟩
 refine Sp.run Tryz.func39 rfl mn (A:=[]) (Ts:=[]) rfl λ w0=>?_
 refine ae 18 [] λ n1=>RN.nt<|RN.loop (σ:=Nat × Option Addr × Nat × HL) (λ ⟨q,A_,c_,T_⟩=>⟨[(1,.slice A n cap),(2,vI t),(3,vP (n1+0) 0),(7,.slice A_ q c_),(8,vI (q:Int))],[((n1+0),.lit (Setup.l S) 31 (0,0))],[T_],(q:Int) <= S.players /\ SlIs gw 151 (rowL S.players xs t q) A_ c_ T_ /\ cM A_,S.players.toNat - q⟩) (0,none,0,[]) [0] [0] (⟨by show (0:Int) <= _;omega,SlIs.nil _ _,trivial⟩) ?_
 rintro ⟨q,A_,c_,T_⟩ ⟨hi_,hs_,hz_⟩ mt3
 refine ae 9 [.own 0] λ _=>RN.em ((q:Int) < S.players) 14 (λ h4=>?_) λ h4=>?_
 ·refine ae 18 [] λ _=>RN.em ((n:Int) > 0) 19 (λ h5=>?_) λ h5=>?_
  ·refine al 12 [.own 0,.nw,.nw,.nw] [0 <= (t * S.players)+(q:Int) /\ (0:Int) < (n:Int) /\ (t * S.players)+(q:Int) <= 9223372036854775807,bq ((t * S.players)+(q:Int)),bq (t * S.players)] λ _=>?_
   have hix1:=Int.emod_nonneg (t * S.players+(q:Int)) (show (n:Int) ≠ 0 by omega)
   have hix2:=Int.emod_lt_of_pos (t * S.players+(q:Int)) (show (0:Int) < n by omega)
   obtain ⟨qx6,ox6,Nx6,gx6,tyx6,fzx6,hAx6,hqx6,hox6,hgx6,hrx6⟩:=hl.at (k:=((t * S.players+(q:Int)) % (n:Int)).toNat) (by omega)
   refine bJ 20 (congrArg (λ v_=>(.slice v_ n cap:Value)) hAx6)<|RN.ro (λ _=>(mc hqx6 mn))<|al 2 [.ix ((((t * S.players)+(q:Int)) % (n:Int)).toNat),.rorow 0 (ox6+((((t * S.players)+(q:Int)) % (n:Int)).toNat)) 0] [(ox6+((((t * S.players)+(q:Int)) % (n:Int)).toNat) * 1)=(ox6+((((t * S.players)+(q:Int)) % (n:Int)).toNat)) * 1+0 /\ (ox6+((((t * S.players)+(q:Int)) % (n:Int)).toNat)) < Nx6,((t * S.players)+(q:Int)) % (n:Int)=(((((t * S.players)+(q:Int)) % (n:Int)).toNat:Nat):Int) /\ (((t * S.players)+(q:Int)) % (n:Int)).toNat < n] λ _=>bJ 31 (congrArg (λ v_=>(v_:Value)) hgx6)<|aj (eJ (xs.getD (((t * S.players+(q:Int)) % (n:Int)).toNat) 0) 1000000 (by decide) _) ?_
   have hA7:=dw (n:=xs.getD (((t * S.players+(q:Int)) % (n:Int)).toNat) 0) hrx6 1000000 (by decide)
   refine ae 4 [] λ _=>al 22 [.nw,.nw,.nw,.nw,.nw,.own 0,.own 0,.own 0,.nw,.nw] [0 <= (au (xs.getD (((t * S.players+(q:Int)) % (n:Int)).toNat) 0) 1000000) / 9 /\ (0:Int) < 3 /\ (au (xs.getD (((t * S.players+(q:Int)) % (n:Int)).toNat) 0) 1000000) / 9 <= 9223372036854775807,0 <= au (xs.getD (((t * S.players+(q:Int)) % (n:Int)).toNat) 0) 1000000 /\ (0:Int) < 9 /\ au (xs.getD (((t * S.players+(q:Int)) % (n:Int)).toNat) 0) 1000000 <= 9223372036854775807,bq ((((au (xs.getD (((t * S.players+(q:Int)) % (n:Int)).toNat) 0) 1000000) / 3) % 3) - 1),0 <= (au (xs.getD (((t * S.players+(q:Int)) % (n:Int)).toNat) 0) 1000000) / 3 /\ (0:Int) < 3 /\ (au (xs.getD (((t * S.players+(q:Int)) % (n:Int)).toNat) 0) 1000000) / 3 <= 9223372036854775807,0 <= au (xs.getD (((t * S.players+(q:Int)) % (n:Int)).toNat) 0) 1000000 /\ (0:Int) < 3 /\ au (xs.getD (((t * S.players+(q:Int)) % (n:Int)).toNat) 0) 1000000 <= 9223372036854775807,bq (((au (xs.getD (((t * S.players+(q:Int)) % (n:Int)).toNat) 0) 1000000) % 3) - 1),0 <= au (xs.getD (((t * S.players+(q:Int)) % (n:Int)).toNat) 0) 1000000 /\ (0:Int) < 3 /\ au (xs.getD (((t * S.players+(q:Int)) % (n:Int)).toNat) 0) 1000000 <= 9223372036854775807] λ n8=>RN.em (((au (xs.getD (((t * S.players+(q:Int)) % (n:Int)).toNat) 0) 1000000) / 9) % 3=0) 44 (λ h9=>?_) λ h9=>?_
   ·refine al 13 [.nw,.nw,.own 0,.own 0,.own 0,.own 0] [0 <= (au (xs.getD (((t * S.players+(q:Int)) % (n:Int)).toNat) 0) 1000000) / 27 /\ (0:Int) < 4 /\ (au (xs.getD (((t * S.players+(q:Int)) % (n:Int)).toNat) 0) 1000000) / 27 <= 9223372036854775807,0 <= au (xs.getD (((t * S.players+(q:Int)) % (n:Int)).toNat) 0) 1000000 /\ (0:Int) < 27 /\ au (xs.getD (((t * S.players+(q:Int)) % (n:Int)).toNat) 0) 1000000 <= 9223372036854775807] λ n10=>?_
    have he_:tJ S.players xs t q=(⟨((au (xs.getD (((t * S.players+(q:Int)) % (n:Int)).toNat) 0) 1000000) % 3) - 1,(((au (xs.getD (((t * S.players+(q:Int)) % (n:Int)).toNat) 0) 1000000) / 3) % 3) - 1,((au (xs.getD (((t * S.players+(q:Int)) % (n:Int)).toNat) 0) 1000000) / 27) % 4⟩:Inp):=by
     unfold tJ
     rw [show rowN S.players xs t q=au (xs.getD (((t * S.players+(q:Int)) % (n:Int)).toNat) 0) 1000000 from by unfold rowN;rw [hl.len];rw [if_pos (by omega)]]
     first | rfl | (unfold vz;simp only [if_pos h9])
    refine ij pI (rowL S.players xs t q) [(⟨((au (xs.getD (((t * S.players+(q:Int)) % (n:Int)).toNat) 0) 1000000) % 3) - 1,(((au (xs.getD (((t * S.players+(q:Int)) % (n:Int)).toNat) 0) 1000000) / 3) % 3) - 1,((au (xs.getD (((t * S.players+(q:Int)) % (n:Int)).toNat) 0) 1000000) / 27) % 4⟩:Inp)] 0 0 (fh _ _ _ _).symm hs_ (by rw [fh];show q+1 <= 100000000;omega) ?_
    rintro A11 c12 T13 ⟨hs14,hz15⟩
    refine al 9 [.nw] [bq ((q:Int)+1)] λ _=>?_
    have hz2:=hz15 hz_
    refine mt3 (q+1,A11,c12,T13) [2] [0] ?_
    try dsimp only
    refine ⟨⟨by omega,?_,hz2⟩,by omega⟩
    rw [nF,he_]
    exact hs14
   ·refine ae 7 [.own 0,.own 0,.own 0] λ n16=>?_
    have he_:tJ S.players xs t q=(⟨((au (xs.getD (((t * S.players+(q:Int)) % (n:Int)).toNat) 0) 1000000) % 3) - 1,(((au (xs.getD (((t * S.players+(q:Int)) % (n:Int)).toNat) 0) 1000000) / 3) % 3) - 1,0⟩:Inp):=by
     unfold tJ
     rw [show rowN S.players xs t q=au (xs.getD (((t * S.players+(q:Int)) % (n:Int)).toNat) 0) 1000000 from by unfold rowN;rw [hl.len];rw [if_pos (by omega)]]
     first | rfl | (unfold vz;simp only [if_neg h9])
    refine ij pI (rowL S.players xs t q) [(⟨((au (xs.getD (((t * S.players+(q:Int)) % (n:Int)).toNat) 0) 1000000) % 3) - 1,(((au (xs.getD (((t * S.players+(q:Int)) % (n:Int)).toNat) 0) 1000000) / 3) % 3) - 1,0⟩:Inp)] 0 0 (fh _ _ _ _).symm hs_ (by rw [fh];show q+1 <= 100000000;omega) ?_
    rintro A17 c18 T19 ⟨hs20,hz21⟩
    refine al 9 [.nw] [bq ((q:Int)+1)] λ _=>?_
    have hz2:=hz21 hz_
    refine mt3 (q+1,A17,c18,T19) [2] [0] ?_
    try dsimp only
    refine ⟨⟨by omega,?_,hz2⟩,by omega⟩
    rw [nF,he_]
    exact hs20
  ·refine ae 4 [] λ _=>ae 35 (ow 0 7) λ n22=>?_
   have he_:tJ S.players xs t q=(⟨(-1),(-1),0⟩:Inp):=by
    unfold tJ
    rw [show rowN S.players xs t q=0 from by unfold rowN;rw [hl.len];rw [if_neg (by omega)]]
    rfl
   refine ij pI (rowL S.players xs t q) [(⟨(-1),(-1),0⟩:Inp)] 0 0 (fh _ _ _ _).symm hs_ (by rw [fh];show q+1 <= 100000000;omega) ?_
   rintro A23 c24 T25 ⟨hs26,hz27⟩
   refine al 9 [.nw] [bq ((q:Int)+1)] λ _=>?_
   have hz2:=hz27 hz_
   refine mt3 (q+1,A23,c24,T25) [2] [0] ?_
   try dsimp only
   refine ⟨⟨by omega,?_,hz2⟩,by omega⟩
   rw [nF,he_]
   exact hs26
 ·refine ae 12 [] λ _=>RN.ret [] [] [0] (v:=.slice A_ q c_) (H':=(ap [] [T_])) ?_
  have ei:q=S.players.toNat:=by omega
  subst ei
  exact ⟨(A_,c_,T_),rfl,rfl,hs_,hz_⟩
theorem oN (a:Addr) (n c:Nat) (xs:List Bod) (F:HL) (hl:SrcIn Tryz.prog ke F (some a) n xs) (hb:n <= 100000000):Sp Tryz.prog 134 #[.slice (some a) n c] [] F (λ u H'=>∃ x:Option Addr × Nat × HL,H'=ap [] [x.2.2] /\ (u=.slice x.1 n x.2.1 /\ ClS ke 106 xs x.1 x.2.1 x.2.2)):=by
 refine Sp.run Tryz.func134 rfl mn (A:=[]) (Ts:=[]) rfl λ w0=>?_
 refine ae 19 [] λ n1=>RN.nt<|iQ (A:=(some ⟨(n1+0),0,none⟩)) (B:=(some a)) (c':=c) ti xs 0 (λ a_ e_=>by cases e_;rfl) (m:=n) (tx:=23) hl.1.1.symm (by rw [hl.1.1];exact hb) (λ e_ he X w hR=>hl.2 c he X w hR) ?_
 rintro A2 c3 T4 hs5
 refine ae 3 [] λ _=>RN.ret [] [] [0] (v:=.slice A2 xs.length c3) (H':=(ap [] [T4])) ?_
 exact ⟨(A2,c3,T4),rfl,by rw [hl.1.1],_,hs5⟩
theorem oO (c:Nat) (F:HL):Sp Tryz.prog 134 #[.slice none 0 c] [] F (λ u H'=>∃ x:Option Addr × Nat × HL,H'=ap [] [x.2.2] /\ (u=.slice x.1 0 x.2.1 /\ ClS ke 106 [] x.1 x.2.1 x.2.2)):=by
 refine Sp.run Tryz.func134 rfl mn (A:=[]) (Ts:=[]) rfl λ w0=>?_
 refine ae 18 [] λ _=>RN.ret [] [] [] (v:=.slice none 0 0) (H':=(ap [] [])) ?_
 exact ⟨(none,0,[]),rfl,rfl,.nil _ _ _⟩
theorem kD (A:Option Addr) (n c:Nat) (xs:List Bod) (F:HL) (hl:SrcIn Tryz.prog ke F A n xs) (hb:n <= 100000000):Sp Tryz.prog 134 #[.slice A n c] (ap [] []) F (λ u H'=>∃ x:Option Addr × Nat × HL,H'=ap [] [x.2.2] /\ (u=.slice x.1 n x.2.1 /\ ClS ke 106 xs x.1 x.2.1 x.2.2)):=by
 cases A with
 | some a=>exact oN a n c xs F hl hb
 | none =>
  obtain rfl:n=0:=hl.1.2 rfl
  obtain rfl:xs=[]:=List.eq_nil_of_length_eq_zero hl.1.1
  exact oO c F
theorem pY (a:Addr) (n c:Nat) (xs:List V2) (F:HL) (hl:SrcIn Tryz.prog kC F (some a) n xs) (hb:n <= 100000000):Sp Tryz.prog 135 #[.slice (some a) n c] [] F (λ u H'=>∃ x:Option Addr × Nat × HL,H'=ap [] [x.2.2] /\ (u=.slice x.1 n x.2.1 /\ ClS kC 29 xs x.1 x.2.1 x.2.2)):=by
 refine Sp.run Tryz.func135 rfl mn (A:=[]) (Ts:=[]) rfl λ w0=>?_
 refine ae 19 [] λ n1=>RN.nt<|iQ (A:=(some ⟨(n1+0),0,none⟩)) (B:=(some a)) (c':=c) xM xs 0 (λ a_ e_=>by cases e_;rfl) (m:=n) (tx:=99) hl.1.1.symm (by rw [hl.1.1];exact hb) (λ e_ he X w hR=>hl.2 c he X w hR) ?_
 rintro A2 c3 T4 hs5
 refine ae 3 [] λ _=>RN.ret [] [] [0] (v:=.slice A2 xs.length c3) (H':=(ap [] [T4])) ?_
 exact ⟨(A2,c3,T4),rfl,by rw [hl.1.1],_,hs5⟩
theorem pZ (c:Nat) (F:HL):Sp Tryz.prog 135 #[.slice none 0 c] [] F (λ u H'=>∃ x:Option Addr × Nat × HL,H'=ap [] [x.2.2] /\ (u=.slice x.1 0 x.2.1 /\ ClS kC 29 [] x.1 x.2.1 x.2.2)):=by
 refine Sp.run Tryz.func135 rfl mn (A:=[]) (Ts:=[]) rfl λ w0=>?_
 refine ae 18 [] λ _=>RN.ret [] [] [] (v:=.slice none 0 0) (H':=(ap [] [])) ?_
 exact ⟨(none,0,[]),rfl,rfl,.nil _ _ _⟩
theorem lI (A:Option Addr) (n c:Nat) (xs:List V2) (F:HL) (hl:SrcIn Tryz.prog kC F A n xs) (hb:n <= 100000000):Sp Tryz.prog 135 #[.slice A n c] (ap [] []) F (λ u H'=>∃ x:Option Addr × Nat × HL,H'=ap [] [x.2.2] /\ (u=.slice x.1 n x.2.1 /\ ClS kC 29 xs x.1 x.2.1 x.2.2)):=by
 cases A with
 | some a=>exact pY a n c xs F hl hb
 | none =>
  obtain rfl:n=0:=hl.1.2 rfl
  obtain rfl:xs=[]:=List.eq_nil_of_length_eq_zero hl.1.1
  exact pZ c F
theorem p5 (a:Addr) (n c:Nat) (xs:List Bx) (F:HL) (hl:SrcIn Tryz.prog vu F (some a) n xs) (hb:n <= 100000000):Sp Tryz.prog 136 #[.slice (some a) n c] [] F (λ u H'=>∃ x:Option Addr × Nat × HL,H'=ap [] [x.2.2] /\ (u=.slice x.1 n x.2.1 /\ ClS vu 25 xs x.1 x.2.1 x.2.2)):=by
 refine Sp.run Tryz.func136 rfl mn (A:=[]) (Ts:=[]) rfl λ w0=>?_
 refine ae 19 [] λ n1=>RN.nt<|iQ (A:=(some ⟨(n1+0),0,none⟩)) (B:=(some a)) (c':=c) D4 xs 0 (λ a_ e_=>by cases e_;rfl) (m:=n) (tx:=26) hl.1.1.symm (by rw [hl.1.1];exact hb) (λ e_ he X w hR=>hl.2 c he X w hR) ?_
 rintro A2 c3 T4 hs5
 refine ae 3 [] λ _=>RN.ret [] [] [0] (v:=.slice A2 xs.length c3) (H':=(ap [] [T4])) ?_
 exact ⟨(A2,c3,T4),rfl,by rw [hl.1.1],_,hs5⟩
theorem p6 (c:Nat) (F:HL):Sp Tryz.prog 136 #[.slice none 0 c] [] F (λ u H'=>∃ x:Option Addr × Nat × HL,H'=ap [] [x.2.2] /\ (u=.slice x.1 0 x.2.1 /\ ClS vu 25 [] x.1 x.2.1 x.2.2)):=by
 refine Sp.run Tryz.func136 rfl mn (A:=[]) (Ts:=[]) rfl λ w0=>?_
 refine ae 18 [] λ _=>RN.ret [] [] [] (v:=.slice none 0 0) (H':=(ap [] [])) ?_
 exact ⟨(none,0,[]),rfl,rfl,.nil _ _ _⟩
theorem lJ (A:Option Addr) (n c:Nat) (xs:List Bx) (F:HL) (hl:SrcIn Tryz.prog vu F A n xs) (hb:n <= 100000000):Sp Tryz.prog 136 #[.slice A n c] (ap [] []) F (λ u H'=>∃ x:Option Addr × Nat × HL,H'=ap [] [x.2.2] /\ (u=.slice x.1 n x.2.1 /\ ClS vu 25 xs x.1 x.2.1 x.2.2)):=by
 cases A with
 | some a=>exact p5 a n c xs F hl hb
 | none =>
  obtain rfl:n=0:=hl.1.2 rfl
  obtain rfl:xs=[]:=List.eq_nil_of_length_eq_zero hl.1.1
  exact p6 c F
theorem oP (a:Addr) (n c:Nat) (xs:List Dr) (F:HL) (hl:SrcIn Tryz.prog l9 F (some a) n xs) (hb:n <= 100000000):Sp Tryz.prog 137 #[.slice (some a) n c] [] F (λ u H'=>∃ x:Option Addr × Nat × HL,H'=ap [] [x.2.2] /\ (u=.slice x.1 n x.2.1 /\ ClS l9 97 xs x.1 x.2.1 x.2.2)):=by
 refine Sp.run Tryz.func137 rfl mn (A:=[]) (Ts:=[]) rfl λ w0=>?_
 refine ae 19 [] λ n1=>RN.nt<|iQ (A:=(some ⟨(n1+0),0,none⟩)) (B:=(some a)) (c':=c) D5 xs 0 (λ a_ e_=>by cases e_;rfl) (m:=n) (tx:=27) hl.1.1.symm (by rw [hl.1.1];exact hb) (λ e_ he X w hR=>hl.2 c he X w hR) ?_
 rintro A2 c3 T4 hs5
 refine ae 3 [] λ _=>RN.ret [] [] [0] (v:=.slice A2 xs.length c3) (H':=(ap [] [T4])) ?_
 exact ⟨(A2,c3,T4),rfl,by rw [hl.1.1],_,hs5⟩
theorem oQ (c:Nat) (F:HL):Sp Tryz.prog 137 #[.slice none 0 c] [] F (λ u H'=>∃ x:Option Addr × Nat × HL,H'=ap [] [x.2.2] /\ (u=.slice x.1 0 x.2.1 /\ ClS l9 97 [] x.1 x.2.1 x.2.2)):=by
 refine Sp.run Tryz.func137 rfl mn (A:=[]) (Ts:=[]) rfl λ w0=>?_
 refine ae 18 [] λ _=>RN.ret [] [] [] (v:=.slice none 0 0) (H':=(ap [] [])) ?_
 exact ⟨(none,0,[]),rfl,rfl,.nil _ _ _⟩
theorem kF (A:Option Addr) (n c:Nat) (xs:List Dr) (F:HL) (hl:SrcIn Tryz.prog l9 F A n xs) (hb:n <= 100000000):Sp Tryz.prog 137 #[.slice A n c] (ap [] []) F (λ u H'=>∃ x:Option Addr × Nat × HL,H'=ap [] [x.2.2] /\ (u=.slice x.1 n x.2.1 /\ ClS l9 97 xs x.1 x.2.1 x.2.2)):=by
 cases A with
 | some a=>exact oP a n c xs F hl hb
 | none =>
  obtain rfl:n=0:=hl.1.2 rfl
  obtain rfl:xs=[]:=List.eq_nil_of_length_eq_zero hl.1.1
  exact oQ c F
theorem p7 (a:Addr) (n c:Nat) (xs:List Ins) (F:HL) (hl:SrcIn Tryz.prog kB F (some a) n xs) (hb:n <= 100000000):Sp Tryz.prog 43 #[.slice (some a) n c] [] F (λ u H'=>∃ x:Option Addr × Nat × HL,H'=ap [] [x.2.2] /\ (u=.slice x.1 n x.2.1 /\ ClS kB 129 xs x.1 x.2.1 x.2.2)):=by
 refine Sp.run Tryz.func43 rfl mn (A:=[]) (Ts:=[]) rfl λ w0=>?_
 refine ae 19 [] λ n1=>RN.nt<|iQ (A:=(some ⟨(n1+0),0,none⟩)) (B:=(some a)) (c':=c) Dj xs 0 (λ a_ e_=>by cases e_;rfl) (m:=n) (tx:=44) hl.1.1.symm (by rw [hl.1.1];exact hb) (λ e_ he X w hR=>hl.2 c he X w hR) ?_
 rintro A2 c3 T4 hs5
 refine ae 3 [] λ _=>RN.ret [] [] [0] (v:=.slice A2 xs.length c3) (H':=(ap [] [T4])) ?_
 exact ⟨(A2,c3,T4),rfl,by rw [hl.1.1],_,hs5⟩
theorem p8 (c:Nat) (F:HL):Sp Tryz.prog 43 #[.slice none 0 c] [] F (λ u H'=>∃ x:Option Addr × Nat × HL,H'=ap [] [x.2.2] /\ (u=.slice x.1 0 x.2.1 /\ ClS kB 129 [] x.1 x.2.1 x.2.2)):=by
 refine Sp.run Tryz.func43 rfl mn (A:=[]) (Ts:=[]) rfl λ w0=>?_
 refine ae 18 [] λ _=>RN.ret [] [] [] (v:=.slice none 0 0) (H':=(ap [] [])) ?_
 exact ⟨(none,0,[]),rfl,rfl,.nil _ _ _⟩
theorem rk (A:Option Addr) (n c:Nat) (xs:List Ins) (F:HL) (hl:SrcIn Tryz.prog kB F A n xs) (hb:n <= 100000000):Sp Tryz.prog 43 #[.slice A n c] (ap [] []) F (λ u H'=>∃ x:Option Addr × Nat × HL,H'=ap [] [x.2.2] /\ (u=.slice x.1 n x.2.1 /\ ClS kB 129 xs x.1 x.2.1 x.2.2)):=by
 cases A with
 | some a=>exact p7 a n c xs F hl hb
 | none =>
  obtain rfl:n=0:=hl.1.2 rfl
  obtain rfl:xs=[]:=List.eq_nil_of_length_eq_zero hl.1.1
  exact p8 c F
theorem nG (a:Addr) (n c:Nat) (xs:List Inp) (F:HL) (hl:SrcIn Tryz.prog gw F (some a) n xs) (hb:n <= 100000000):Sp Tryz.prog 112 #[.slice (some a) n c] [] F (λ u H'=>∃ x:Option Addr × Nat × HL,H'=ap [] [x.2.2] /\ (u=.slice x.1 n x.2.1 /\ ClS gw 151 xs x.1 x.2.1 x.2.2)):=by
 refine Sp.run Tryz.func112 rfl mn (A:=[]) (Ts:=[]) rfl λ w0=>?_
 refine ae 19 [] λ n1=>RN.nt<|iQ (A:=(some ⟨(n1+0),0,none⟩)) (B:=(some a)) (c':=c) pI xs 0 (λ a_ e_=>by cases e_;rfl) (m:=n) (tx:=56) hl.1.1.symm (by rw [hl.1.1];exact hb) (λ e_ he X w hR=>hl.2 c he X w hR) ?_
 rintro A2 c3 T4 hs5
 refine ae 3 [] λ _=>RN.ret [] [] [0] (v:=.slice A2 xs.length c3) (H':=(ap [] [T4])) ?_
 exact ⟨(A2,c3,T4),rfl,by rw [hl.1.1],_,hs5⟩
theorem nH (c:Nat) (F:HL):Sp Tryz.prog 112 #[.slice none 0 c] [] F (λ u H'=>∃ x:Option Addr × Nat × HL,H'=ap [] [x.2.2] /\ (u=.slice x.1 0 x.2.1 /\ ClS gw 151 [] x.1 x.2.1 x.2.2)):=by
 refine Sp.run Tryz.func112 rfl mn (A:=[]) (Ts:=[]) rfl λ w0=>?_
 refine ae 18 [] λ _=>RN.ret [] [] [] (v:=.slice none 0 0) (H':=(ap [] [])) ?_
 exact ⟨(none,0,[]),rfl,rfl,.nil _ _ _⟩
theorem oS (A:Option Addr) (n c:Nat) (xs:List Inp) (F:HL) (hl:SrcIn Tryz.prog gw F A n xs) (hb:n <= 100000000):Sp Tryz.prog 112 #[.slice A n c] (ap [] []) F (λ u H'=>∃ x:Option Addr × Nat × HL,H'=ap [] [x.2.2] /\ (u=.slice x.1 n x.2.1 /\ ClS gw 151 xs x.1 x.2.1 x.2.2)):=by
 cases A with
 | some a=>exact nG a n c xs F hl hb
 | none =>
  obtain rfl:n=0:=hl.1.2 rfl
  obtain rfl:xs=[]:=List.eq_nil_of_length_eq_zero hl.1.1
  exact nH c F
end Go.Proofs.YtghjbimijeinfaaGreatDoor
