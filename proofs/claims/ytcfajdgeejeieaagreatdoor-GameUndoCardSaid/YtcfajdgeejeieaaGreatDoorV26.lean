import Derived.Test.YtcfajdgeejeieaaGreatDoorV25
set_option maxHeartbeats 4000000
set_option maxRecDepth 100000
set_option linter.unusedSimpArgs false
set_option linter.unusedVariables false
namespace Go.Proofs.YtcfajdgeejeieaaGreatDoor
open Go.RowKit
def sPl (xs:List Int):Int:=1+kv xs 0 % 3
def sCnt (xs:List Int):Int:=sPl xs+kv xs 3 / 3 % 3
def bN (xs:List Int) (i:Nat):Int:=kv xs (4+2 * i)
def bM (xs:List Int) (i:Nat):Int:=kv xs (5+2 * i)
def bodyG (xs:List Int) (i:Nat) (A:Option Addr) (c:Nat):Bod:=⟨⟨(shapeS (bN xs i)).1,(shapeS (bN xs i)).2,A,c⟩,⟨((((bN xs i) / 1000) % 13) - 6) * 900,((((bM xs i) / 50) % 11) - 5) * 800,((((bM xs i) / 550) % 9) - 4) * 300,((((bN xs i) / 13000) % 9) - 4) * 300,([1024,1024,512,2048,0]:List Int).getD (((bM xs i) / 5000) % 5).toNat 0⟩,(bM xs i) % 50,(bN xs i) % 7⟩
def doorA (a b c:Nat) (i:Nat):Option Addr:=match i with | 0=>some ⟨a,0,none⟩ | 1=>some ⟨b,0,none⟩ | _=>some ⟨c,0,none⟩
def doorN (i:Nat):Nat:=match i with | 0=>0 | 1=>1 | _=>2
def doorRow (a b c:Nat):Nat -> Nat -> Value:=λ i _=>.slice (doorA a b c i) (doorN i) (doorN i)
theorem sPl_bd {F:HL} {A:Option Addr} {n:Nat} {xs:List Int} (h:ArgL F A n xs):1 <= sPl xs /\ sPl xs <= 3:=by
 have:=kv_bd h 0
 unfold sPl;omega
theorem sCnt_bd {F:HL} {A:Option Addr} {n:Nat} {xs:List Int} (h:ArgL F A n xs):1 <= sCnt xs /\ sCnt xs <= 5 /\ sPl xs <= sCnt xs:=by
 have:=kv_bd h 0
 have:=kv_bd h 3
 unfold sCnt sPl;omega
theorem ks_app {xs rest:List Int} {n i:Nat} (h:i < n):(ks xs n++rest).getD i 0=kv xs i:=by
 rw [List.getD_eq_getElem?_getD,List.getElem?_append_left (by rw [ks_len];exact h),<- List.getD_eq_getElem?_getD,ks_get h]
theorem getD_app {α:Type} {l r:List α} {i:Nat} {d:α} (h:i < l.length):(l++r).getD i d=l.getD i d:=by
 rw [List.getD_eq_getElem?_getD,List.getElem?_append_left h,<- List.getD_eq_getElem?_getD]
theorem getD_last {α:Type} {l:List α} {x d:α}:(l++[x]).getD l.length d=x:=by simp
theorem ShH.left {s:Shp} {T X:HL} (h:ShH s T):ShH s (T++X):=λ F hF=>h F λ x hx=>hF x (List.mem_append_left _ hx)
theorem ShH.right {s:Shp} {T X:HL} (h:ShH s X):ShH s (T++X):=λ F hF=>h F λ x hx=>hF x (List.mem_append_right _ hx)
theorem doors_rowL {F:HL} {a b c:Nat} (hb:(b,.rows 2 1 (rowE drE (genD 1)) 78 (0,0)) ∈ F) (hc:(c,.rows 2 2 (rowE drE (genD 2)) 78 (0,0)) ∈ F):∀ i:Nat,RowL drE 78 F (doorA a b c i) (doorN i) (genD i)
 | 0=>.zero _
 | 1=>RowL.whole (xs:=genD 1) hb (Nat.le_refl _)
 | _+2=>RowL.whole (xs:=genD 2) hc (Nat.le_refl _)
structure SetG (xs:List Int) (S:Setup) (T:HL):Prop where
 pl:S.players=sPl xs
 nb:(S.nb:Int)=sCnt xs
 bo:S.bo=0
 cap:S.nb <= S.bc
 room:S.bo+S.nb <= S.bR
 nums:S.box=⟨-12000,-9000,12000,9000⟩ /\ S.fog=4000+(kv xs 1 % 9) * 1000 /\ S.g=⟨0,(-((kv xs 2 / 36) % 3)) * 40⟩ /\ S.push=((kv xs 1 / 9) % 5) * 100 /\ S.drag=(kv xs 2 % 4) * 100 /\ S.rest=((kv xs 2 / 4) % 3) * 512 /\ S.rounds=1+(kv xs 2 / 12) % 3 /\ S.fuel=60
 bod:∀ j,j < S.nb -> ∃ A c,S.body j=bodyG xs j A c
 sin:∀ F,(S.bb,.rows 9 S.bR (brow S.bods) 87 (0,0)) ∈ F -> (∀ x ∈ T,x ∈ F) -> SetIn F S
 maps:(S.rn=3 /\ S.dn=doorN (kv xs 3 % 3).toNat) /\ ∀ F,(∀ x ∈ T,x ∈ F) -> MapIn F S genR (genD (kv xs 3 % 3).toNat)
theorem setup_any (A:Option Addr) (n cap:Nat) (xs:List Int) (F:HL) (hl:ArgL F A n xs) (hn:n <= 9223372036854775807):Sp Tryz.prog 6 #[.slice A n cap] [] F (λ u H'=>∃ x:Setup × HL,H'=ap [(x.1.bb,.rows 9 x.1.bR (brow x.1.bods) 87 (0,0))] [x.2] /\ (u=Setup.v x.1 /\ SetG xs x.1 x.2)):=by
 refine Sp.run Tryz.func6 rfl mn (A:=[]) (Ts:=[]) rfl λ w0=>?_
 refine RN.go 17 [] λ n1=>RN.nt<|RN.loop (σ:=Nat × Option Addr × Nat × HL) (λ ⟨i,A_,c_,T_⟩=>⟨[(0,.slice A n cap),(2,vP (n1+0) 0),(3,.slice A_ i c_),(4,vI (i:Int))],[((n1+0),.lit [vI 0,.slice none 0 0,vI 0,vI 0,vI 0,vI 0,.slice none 0 0,.slice none 0 0,vI 0,vI 0,vI 0,vI 0,vI 0,vI 0,vI 0,vI 0] 31 (0,0))],[T_],i <= 24 /\ SlIs intE 3 (ks xs i) A_ c_ T_ /\ zeroOff A_,24 - i⟩) (0,none,0,[]) [0] [0] (⟨Nat.zero_le _,SlIs.nil _ _,trivial⟩) ?_
 rintro ⟨i,A_,c_,T_⟩ ⟨hi_,hs_,hz_⟩ mt3
 refine RN.go 7 [] λ _=>RN.em ((i:Int) < 24) 12 (λ h4=>?_) λ h4=>?_
 ·refine RN.go 19 [] λ _=>RN.em ((i:Int) < (n:Int)) 18 (λ h5=>?_) λ h5=>?_
  ·refine RN.go 4 [] λ _=>?_
   obtain ⟨qx6,ox6,Nx6,gx6,tyx6,fzx6,hAx6,hqx6,hox6,hgx6,hrx6⟩:=hl.at (k:=i) (by omega)
   refine RN.sv 19 (congrArg (λ v_=>(.slice v_ n cap:Value)) hAx6)<|RN.ro (λ _=>(mc hqx6 mn))<|RN.goP 2 [.ix i,.rorow 0 (ox6+i) 0] [(ox6+i * 1)=(ox6+i) * 1+0 /\ (ox6+i) < Nx6,(i:Int)=((i:Nat):Int) /\ i < n] λ _=>RN.sv 22 (congrArg (λ v_=>(v_:Value)) hgx6)<|RN.cp (around_any (xs.getD i 0) 1000000 (by decide) _) ?_
   have hA7:=around_bd (n:=xs.getD i 0) hrx6 1000000 (by decide)
   refine RN.go 7 [] λ n8=>RN.app intEOk (ks xs i) [around (xs.getD i 0) 1000000] 0 0 (ks_len xs i).symm hs_ (by rw [ks_len];show i+1 <= 100000000;omega) ?_
   rintro A9 c10 T11 ⟨hs12,hz13⟩
   refine RN.goP 9 [.nw] [I64 ((i:Int)+1)] λ _=>?_
   have hz2:=hz13 hz_
   refine mt3 (i+1,A9,c10,T11) [1] [0] ?_
   try dsimp only
   refine ⟨⟨by omega,?_,hz2⟩,by omega⟩
   rw [ks_succ,show kv xs i=_ from by unfold kv;rw [if_pos (by rw [hl.len];omega)]]
   exact hs12
  ·refine RN.go 7 [] λ n14=>RN.app intEOk (ks xs i) [0] 0 0 (ks_len xs i).symm hs_ (by rw [ks_len];show i+1 <= 100000000;omega) ?_
   rintro A15 c16 T17 ⟨hs18,hz19⟩
   refine RN.goP 9 [.nw] [I64 ((i:Int)+1)] λ _=>?_
   have hz2:=hz19 hz_
   refine mt3 (i+1,A15,c16,T17) [1] [0] ?_
   try dsimp only
   refine ⟨⟨by omega,?_,hz2⟩,by omega⟩
   rw [ks_succ,show kv xs i=_ from by unfold kv;rw [if_neg (by rw [hl.len];omega)]]
   exact hs18
 ·refine RN.go 7 [] λ _=>?_
  have ei:i=24:=by omega
  subst ei
  obtain ⟨kb,rest,rfl,rfl,hcap0⟩:=hs_.open0 hz_ (by decide) (by rw [ks_len];decide)
  have hcap:24 <= c_:=by rw [ks_len] at hcap0;exact hcap0
  refine RN.ot 0 (x:=(kb,.rows 1 c_ (rowE intE (ks xs 24++rest)) 3 (0,0))) ?_
  have hk0:=kv_bd hl 0
  have hk1:=kv_bd hl 1
  have hk2:=kv_bd hl 2
  have hk3:=kv_bd hl 3
  have hse:sCnt xs=1+kv xs 0 % 3+kv xs 3 / 3 % 3:=rfl
  have hsc:=sCnt_bd hl
  have hsp:=sPl_bd hl
  refine RN.draw [37] []<|RD.goP [] [0,5,6,12,18,23,29,1,7,13,19,24,30,2,8,14,20,25,31,3,9,15,21,26,32,4,10,16,22,27,33,11,17,28,34,35] [.row 0 0 0,.row 0 1 0,.row 0 1 0,.row 0 2 0,.row 0 2 0,.row 0 2 0,.nw,.nw,.nw,.nw,.nw,.nw,.nw,.nw,.nw,.nw,.nw,.nw,.nw,.nw,.nw,.nw] [I64 (1+(((kv xs 2) / 12) % 3)),I64 ((((kv xs 2) / 4) % 3) * 512),I64 ((((kv xs 1) / 9) % 5) * 100),I64 (4000+(((kv xs 1) % 9) * 1000)),0 <= (kv xs 2) / 12 /\ (0:Int) < 3 /\ (kv xs 2) / 12 <= 9223372036854775807,0 <= (kv xs 2) / 4 /\ (0:Int) < 3 /\ (kv xs 2) / 4 <= 9223372036854775807,I64 (((kv xs 2) % 4) * 100),0 <= (kv xs 1) / 9 /\ (0:Int) < 5 /\ (kv xs 1) / 9 <= 9223372036854775807,I64 (((kv xs 1) % 9) * 1000),I64 (1+((kv xs 0) % 3)),0 <= kv xs 2 /\ (0:Int) < 12 /\ kv xs 2 <= 9223372036854775807,0 <= kv xs 2 /\ (0:Int) < 4 /\ kv xs 2 <= 9223372036854775807,0 <= kv xs 2 /\ (0:Int) < 4 /\ kv xs 2 <= 9223372036854775807,0 <= kv xs 1 /\ (0:Int) < 9 /\ kv xs 1 <= 9223372036854775807,0 <= kv xs 1 /\ (0:Int) < 9 /\ kv xs 1 <= 9223372036854775807,0 <= kv xs 0 /\ (0:Int) < 3 /\ kv xs 0 <= 9223372036854775807,2=2 * 1+0 /\ 2 < c_,2=2 * 1+0 /\ 2 < c_,2=2 * 1+0 /\ 2 < c_,1=1 * 1+0 /\ 1 < c_,1=1 * 1+0 /\ 1 < c_,0=0 * 1+0 /\ 0 < c_]<|RD.one 36 (RDO.ev [] [] λ n20=>?_)
  refine RD.one 37 (RDO.ev [] (ow 0 16) λ _=>?_)
  refine RD.fin<|RN.goP 38 [.row 1 2 0,.nw,.nw,.nw,.nw,.own 0,.own 0,.own 1,.row 6 3 0,.nw] [0 <= kv xs 3 /\ (0:Int) < 3 /\ kv xs 3 <= 9223372036854775807,3=3 * 1+0 /\ 3 < c_,I64 ((-(((kv xs 2) / 36) % 3)) * 40),-9223372036854775807 <= ((kv xs 2) / 36) % 3 /\ ((kv xs 2) / 36) % 3 <= 9223372036854775808,0 <= (kv xs 2) / 36 /\ (0:Int) < 3 /\ (kv xs 2) / 36 <= 9223372036854775807,0 <= kv xs 2 /\ (0:Int) < 36 /\ kv xs 2 <= 9223372036854775807,2=2 * 1+0 /\ 2 < c_] λ n21=>RN.dn 0 (.rows 1 3 (doorRow (n21+1) (n21+2) (n21+3)) 27 (0,0))<|RN.goP 13 [.ix (((kv xs 3) % 3).toNat),.row 0 (((kv xs 3) % 3).toNat) 0,.own 5] [(0+(((kv xs 3) % 3).toNat) * 1)=(((kv xs 3) % 3).toNat) * 1+0 /\ (((kv xs 3) % 3).toNat) < 3,(kv xs 3) % 3=((((kv xs 3) % 3).toNat:Nat):Int) /\ ((kv xs 3) % 3).toNat < 3] λ _=>RN.nt<|RN.nt<|RN.loop (σ:=Nat × List Bod × Option Addr × Nat × HL × HL) (λ ⟨j,bods,B_,d_,V_,U_⟩=>⟨[(2,vP (n1+0) 0),(3,vS kb 0 24 c_),(6,vP (n20+0) 0),(7,vI (j:Int))],[((n21+4),.rows 1 3 (doorRow (n21+1) (n21+2) (n21+3)) 27 (0,0)),((n21+3),.lit [vI 0,vI 2,vI 1,vI 2] 78 (0,0)),((n21+2),.lit [vI 0,vI 1] 78 (0,0)),((n21+1),.lit [] 78 (0,0)),((n21+0),.lit [vI (-12000),vI (-9000),vI (-1),vI 9000,vI 0,vI 0,vI 12000,vI 9000,vI 0,vI (-9000),vI 12000,vI (-1)] 25 (0,0)),((n20+0),.lit [vI (1+((kv xs 0) % 3)),.slice B_ j d_,vI (-12000),vI (-9000),vI 12000,vI 9000,vS (n21+0) 0 3 3,.slice (doorA (n21+1) (n21+2) (n21+3) (((kv xs 3) % 3).toNat)) (doorN (((kv xs 3) % 3).toNat)) (doorN (((kv xs 3) % 3).toNat)),vI (4000+(((kv xs 1) % 9) * 1000)),vI 0,vI ((-(((kv xs 2) / 36) % 3)) * 40),vI ((((kv xs 1) / 9) % 5) * 100),vI (((kv xs 2) % 4) * 100),vI ((((kv xs 2) / 4) % 3) * 512),vI (1+(((kv xs 2) / 12) % 3)),vI 60] 31 (0,0)),(kb,.rows 1 c_ (rowE intE (ks xs 24++rest)) 3 (0,0)),((n1+0),.lit [vI 0,.slice none 0 0,vI 0,vI 0,vI 0,vI 0,.slice none 0 0,.slice none 0 0,vI 0,vI 0,vI 0,vI 0,vI 0,vI 0,vI 0,vI 0] 31 (0,0))],[V_,U_],(j:Int) <= sCnt xs /\ bods.length=j /\ (∀ t,t < j -> ∃ A c,bods.getD t dB=bodyG xs t A c) /\ (∀ t,t < j -> ShH (bods.getD t dB).sh U_) /\ SlIs bodE 87 bods B_ d_ V_ /\ zeroOff B_,(sCnt xs).toNat - j⟩) (0,[],none,0,[],[]) [0,1,2,3,4,5,6,7] [0,1] (⟨by show (0:Int) <= _;omega,rfl,λ t ht=>absurd ht (Nat.not_lt_zero _),λ t ht=>absurd ht (Nat.not_lt_zero _),SlIs.nil _ _,trivial⟩) ?_
  rintro ⟨j,bods,B_,d_,V_,U_⟩ ⟨hj_,hbl_,hb_,hsh_,hs2_,hz2_⟩ mt23
  refine RN.go 2 [] λ _=>RN.draw [] []<|RD.goP [] [0,1,3,2,4,5,6,7,8,9] [.own 5,.row 6 3 0,.nw,.nw,.nw] [I64 ((1+((kv xs 0) % 3))+(((kv xs 3) / 3) % 3)),0 <= (kv xs 3) / 3 /\ (0:Int) < 3 /\ (kv xs 3) / 3 <= 9223372036854775807,0 <= kv xs 3 /\ (0:Int) < 3 /\ kv xs 3 <= 9223372036854775807,3=3 * 1+0 /\ 3 < c_]<|RD.fin<|RN.go 1 [] λ _=>RN.em ((j:Int) < (1+((kv xs 0) % 3))+(((kv xs 3) / 3) % 3)) 101 (λ h24=>?_) λ h24=>?_
  ·refine RN.goP 13 [.nw,.nw,.ix ((4+(2 * (j:Int))).toNat),.row 6 ((4+(2 * (j:Int))).toNat) 0] [(0+((4+(2 * (j:Int))).toNat) * 1)=((4+(2 * (j:Int))).toNat) * 1+0 /\ ((4+(2 * (j:Int))).toNat) < c_,4+(2 * (j:Int))=(((4+(2 * (j:Int))).toNat:Nat):Int) /\ (4+(2 * (j:Int))).toNat < 24,I64 (4+(2 * (j:Int))),I64 (2 * (j:Int))] λ _=>RN.sv 109 (congrArg (λ v_=>(vI v_:Value)) (ks_app (xs:=xs) (rest:=rest) (n:=24) (i:=4+2 * j) (by omega))) ?_
   have hbN:=kv_bd hl (4+2 * j)
   rw [show kv xs (4+2 * j)=bN xs j from rfl] at hbN
   refine RN.goP 11 [.nw,.nw,.ix ((5+(2 * (j:Int))).toNat),.row 6 ((5+(2 * (j:Int))).toNat) 0] [(0+((5+(2 * (j:Int))).toNat) * 1)=((5+(2 * (j:Int))).toNat) * 1+0 /\ ((5+(2 * (j:Int))).toNat) < c_,5+(2 * (j:Int))=(((5+(2 * (j:Int))).toNat:Nat):Int) /\ (5+(2 * (j:Int))).toNat < 24,I64 (5+(2 * (j:Int))),I64 (2 * (j:Int))] λ _=>RN.sv 115 (congrArg (λ v_=>(vI v_:Value)) (ks_app (xs:=xs) (rest:=rest) (n:=24) (i:=5+2 * j) (by omega))) ?_
   have hbM:=kv_bd hl (5+2 * j)
   rw [show kv xs (5+2 * j)=bM xs j from rfl] at hbM
   refine RN.go 6 [] λ _=>RN.ct (Hp:=[]) (Tp:=[]) [] [] (shapeOf_any (bN xs j) _) ?_
   rintro _ ⟨A25,c26,T27⟩ ⟨rfl,hsh28⟩
   dsimp only at hsh28
   refine RN.goP 37 ([.nw,.nw]++ow 0 9++[.nw,.nw,.nw,.nw,.nw,.nw,.nw,.nw,.nw,.nw,.nw,.nw,.nw,.nw,.nw,.nw,.nw,.nw]) [0 <= (bM xs j) / 5000 /\ (0:Int) < 5 /\ (bM xs j) / 5000 <= 9223372036854775807,0 <= bM xs j /\ (0:Int) < 5000 /\ bM xs j <= 9223372036854775807,I64 (((((bN xs j) / 13000) % 9) - 4) * 300),I64 ((((bN xs j) / 13000) % 9) - 4),0 <= (bN xs j) / 13000 /\ (0:Int) < 9 /\ (bN xs j) / 13000 <= 9223372036854775807,0 <= bN xs j /\ (0:Int) < 13000 /\ bN xs j <= 9223372036854775807,I64 (((((bM xs j) / 550) % 9) - 4) * 300),I64 ((((bM xs j) / 550) % 9) - 4),0 <= (bM xs j) / 550 /\ (0:Int) < 9 /\ (bM xs j) / 550 <= 9223372036854775807,0 <= bM xs j /\ (0:Int) < 550 /\ bM xs j <= 9223372036854775807,I64 (((((bM xs j) / 50) % 11) - 5) * 800),I64 ((((bM xs j) / 50) % 11) - 5),0 <= (bM xs j) / 50 /\ (0:Int) < 11 /\ (bM xs j) / 50 <= 9223372036854775807,0 <= bM xs j /\ (0:Int) < 50 /\ bM xs j <= 9223372036854775807,I64 (((((bN xs j) / 1000) % 13) - 6) * 900),I64 ((((bN xs j) / 1000) % 13) - 6),0 <= (bN xs j) / 1000 /\ (0:Int) < 13 /\ (bN xs j) / 1000 <= 9223372036854775807,0 <= bN xs j /\ (0:Int) < 1000 /\ bN xs j <= 9223372036854775807,0 <= bN xs j /\ (0:Int) < 7 /\ bN xs j <= 9223372036854775807,0 <= bM xs j /\ (0:Int) < 50 /\ bM xs j <= 9223372036854775807] λ n29=>RN.dn 0 (.rows 1 5 (irow [1024,1024,512,2048,0]) 3 (0,0))<|RN.goP 12 ([.ix ((((bM xs j) / 5000) % 5).toNat),.row 0 ((((bM xs j) / 5000) % 5).toNat) 0]++ow 1 5++[.own 7]++ow 1 9) [(0+((((bM xs j) / 5000) % 5).toNat) * 1)=((((bM xs j) / 5000) % 5).toNat) * 1+0 /\ ((((bM xs j) / 5000) % 5).toNat) < 5,((bM xs j) / 5000) % 5=(((((bM xs j) / 5000) % 5).toNat:Nat):Int) /\ (((bM xs j) / 5000) % 5).toNat < 5] λ n30=>RN.app bodEOk bods [bodyG xs j A25 c26] 1 0 hbl_.symm hs2_ (by rw [hbl_];show j+1 <= 100000000;omega) ?_
   rintro A31 c32 T33 ⟨hs34,hz35⟩
   refine RN.goP 10 [.own 8,.nw] [I64 ((j:Int)+1)] λ _=>?_
   have hz2:=hz35 hz2_
   refine RN.pt [2,1,0]<|RN.jt ?_
   refine mt23 (j+1,bods++[(bodyG xs j A25 c26)],A31,c32,T33,U_++T27) [3,4,5,6,7,8,9,10] [1,0] ?_
   try dsimp only
   refine ⟨⟨by omega,by rw [List.length_append,hbl_];rfl,?_,?_,hs34,hz2⟩,by omega⟩
   ·intro t ht
    rcases Nat.lt_or_ge t j with h | h
    ·rw [getD_app (by omega)];exact hb_ t h
    ·have:t=bods.length:=by omega
     subst this
     rw [getD_last,hbl_];exact ⟨_,_,rfl⟩
   ·intro t ht
    rcases Nat.lt_or_ge t j with h | h
    ·rw [getD_app (by omega)];exact (hsh_ t h).left
    ·have:t=bods.length:=by omega
     subst this
     rw [getD_last];exact ShH.right hsh28
  ·refine RN.go 7 [] λ _=>?_
   have ej:(j:Int)=sCnt xs:=by unfold sCnt sPl;unfold sCnt sPl at hj_;omega
   obtain ⟨bb,rest2,rfl,rfl,hcap2⟩:=hs2_.open0 hz2_ (by decide) (by rw [hbl_];omega)
   refine RN.ot 0 (x:=(bb,.rows 9 d_ (rowE bodE (bods++rest2)) 87 (0,0)))<|RN.go 5 (ow 6 16++ow 8 16) λ _=>RN.dn 5 (.rows 4 3 (rowE bxE genR) 25 (0,0))<|RN.dn 3 (.rows 2 1 (rowE drE (genD 1)) 78 (0,0))<|RN.dn 2 (.rows 2 2 (rowE drE (genD 2)) 78 (0,0))<|RN.ret (ow 8 16) [0,5,3,2] [0] (v:=.agg #[vI (1+((kv xs 0) % 3)),vS bb 0 j d_,vI (-12000),vI (-9000),vI 12000,vI 9000,vS (n21+0) 0 3 3,.slice (doorA (n21+1) (n21+2) (n21+3) (((kv xs 3) % 3).toNat)) (doorN (((kv xs 3) % 3).toNat)) (doorN (((kv xs 3) % 3).toNat)),vI (4000+(((kv xs 1) % 9) * 1000)),vI 0,vI ((-(((kv xs 2) / 36) % 3)) * 40),vI ((((kv xs 1) / 9) % 5) * 100),vI (((kv xs 2) % 4) * 100),vI ((((kv xs 2) / 4) % 3) * 512),vI (1+(((kv xs 2) / 12) % 3)),vI 60]) (H':=(ap [(bb,.rows 9 d_ (rowE bodE (bods++rest2)) 87 (0,0)),((n21+0),.rows 4 3 (rowE bxE genR) 25 (0,0)),((n21+2),.rows 2 1 (rowE drE (genD 1)) 78 (0,0)),((n21+3),.rows 2 2 (rowE drE (genD 2)) 78 (0,0))] [U_])) ?_
   have hbod:∀ k,k < j -> (bods++rest2).getD (0+k) dB=bods.getD k dB:=λ k hk=>by rw [Nat.zero_add,getD_app (by omega)]
   refine ⟨((⟨1+((kv xs 0) % 3),bb,0,j,d_,d_,bods++rest2,⟨-12000,-9000,12000,9000⟩,some ⟨(n21+0),0,none⟩,3,3,doorA (n21+1) (n21+2) (n21+3) (kv xs 3 % 3).toNat,doorN (kv xs 3 % 3).toNat,doorN (kv xs 3 % 3).toNat,4000+(((kv xs 1) % 9) * 1000),⟨0,(-(((kv xs 2) / 36) % 3)) * 40⟩,(((kv xs 1) / 9) % 5) * 100,((kv xs 2) % 4) * 100,(((kv xs 2) / 4) % 3) * 512,1+(((kv xs 2) / 12) % 3),60⟩:Setup),[((n21+0),.rows 4 3 (rowE bxE genR) 25 (0,0)),((n21+2),.rows 2 1 (rowE drE (genD 1)) 78 (0,0)),((n21+3),.rows 2 2 (rowE drE (genD 2)) 78 (0,0))]++U_),(by simp [ap]),rfl,?_⟩
   refine ⟨rfl,ej,rfl,(by rw [hbl_] at hcap2;exact hcap2),(by rw [hbl_] at hcap2;show 0+j <= d_;omega),⟨rfl,rfl,rfl,rfl,rfl,rfl,rfl,rfl⟩,λ k hk=>?_,λ F hbF hF=>⟨⟨by show (0:Int) <= 1+kv xs 0 % 3 /\ 1+kv xs 0 % 3 <= 1000000;omega,by show j <= 1000000;omega⟩,hbF,by show 0+j <= d_;rw [hbl_] at hcap2;omega,λ k hk=>?_⟩,⟨⟨rfl,rfl⟩,λ F hF=>⟨RowL.whole (xs:=genR) (hF _ (List.mem_append_left _ (List.mem_cons_self))) (Nat.le_refl _),doors_rowL (hF _ (List.mem_append_left _ (List.mem_cons_of_mem _ (List.mem_cons_self)))) (hF _ (List.mem_append_left _ (List.mem_cons_of_mem _ (List.mem_cons_of_mem _ (List.mem_cons_self))))) _⟩⟩⟩
   ·obtain ⟨A,c,h⟩:=hb_ k hk
    exact ⟨A,c,by show (bods++rest2).getD (0+k) dB=_;rw [hbod k hk];exact h⟩
   ·show ShIn F ((bods++rest2).getD (0+k) dB).sh
    rw [hbod k hk]
    exact hsh_ k hk F λ x hx=>hF x (by simp [hx])
def rowN (pl:Int) (xs:List Int) (t:Int) (q:Nat):Int:=if xs.length > 0 then around (xs.getD ((t * pl+(q:Int)) % (xs.length:Int)).toNat 0) 1000000 else 0
def rowOf (n:Int):Inp:=⟨n % 3 - 1,n / 3 % 3 - 1,if n / 9 % 3=0 then n / 27 % 4 else 0⟩
def rowI (pl:Int) (xs:List Int) (t:Int) (q:Nat):Inp:=rowOf (rowN pl xs t q)
def rowL (pl:Int) (xs:List Int) (t:Int) (n:Nat):List Inp:=(List.range n).map (rowI pl xs t)
theorem rowL_len (pl:Int) (xs:List Int) (t:Int) (n:Nat):(rowL pl xs t n).length=n:=by simp [rowL]
theorem rowL_succ (pl:Int) (xs:List Int) (t:Int) (n:Nat):rowL pl xs t (n+1)=rowL pl xs t n++[rowI pl xs t n]:=by simp [rowL,List.range_succ]
theorem rowL_get {pl:Int} {xs:List Int} {t:Int} {n i:Nat} (h:i < n):(rowL pl xs t n).getD i dI=rowI pl xs t i:=by simp [rowL,h]
theorem rowN_bd {F:HL} {A:Option Addr} {n:Nat} {xs:List Int} (h:ArgL F A n xs) (pl t:Int) (q:Nat):0 <= rowN pl xs t q /\ rowN pl xs t q < 1000000:=by
 unfold rowN
 split
 ·next hi =>
  rw [h.len] at hi
  have h1:=Int.emod_nonneg (t * pl+(q:Int)) (show (n:Int) ≠ 0 by omega)
  have h2:=Int.emod_lt_of_pos (t * pl+(q:Int)) (show (0:Int) < n by omega)
  rw [h.len]
  obtain ⟨_,_,_,_,_,_,_,_,_,_,hr⟩:=h.at (k:=((t * pl+(q:Int)) % (n:Int)).toNat) (by omega)
  exact around_bd hr 1000000 (by decide)
 ·omega
theorem row_any (S:Setup) (A:Option Addr) (n cap:Nat) (xs:List Int) (t:Int) (F:HL) (hl:ArgL F A n xs) (hn:n <= 9223372036854775807) (hp:0 <= S.players /\ S.players <= 1000000) (ht:0 <= t /\ t <= 1000000):Sp Tryz.prog 41 #[(Setup.v S),.slice A n cap,vI t] [] F (λ u H'=>∃ x:Option Addr × Nat × HL,H'=ap [] [x.2.2] /\ (u=.slice x.1 S.players.toNat x.2.1 /\ SlIs inpE 122 (rowL S.players xs t S.players.toNat) x.1 x.2.1 x.2.2 /\ zeroOff x.1)):=by
 have hm:0 <= t * S.players /\ t * S.players <= 1000000000000:=⟨Int.mul_nonneg ht.1 hp.1,Int.le_trans (Int.mul_le_mul ht.2 hp.2 hp.1 (by decide)) (by decide)⟩
 refine Sp.run Tryz.func41 rfl mn (A:=[]) (Ts:=[]) rfl λ w0=>?_
 refine RN.go 18 [] λ n1=>RN.nt<|RN.loop (σ:=Nat × Option Addr × Nat × HL) (λ ⟨q,A_,c_,T_⟩=>⟨[(1,.slice A n cap),(2,vI t),(3,vP (n1+0) 0),(7,.slice A_ q c_),(8,vI (q:Int))],[((n1+0),.lit (Setup.l S) 31 (0,0))],[T_],(q:Int) <= S.players /\ SlIs inpE 122 (rowL S.players xs t q) A_ c_ T_ /\ zeroOff A_,S.players.toNat - q⟩) (0,none,0,[]) [0] [0] (⟨by show (0:Int) <= _;omega,SlIs.nil _ _,trivial⟩) ?_
 rintro ⟨q,A_,c_,T_⟩ ⟨hi_,hs_,hz_⟩ mt3
 refine RN.go 9 [.own 0] λ _=>RN.em ((q:Int) < S.players) 14 (λ h4=>?_) λ h4=>?_
 ·refine RN.go 18 [] λ _=>RN.em ((n:Int) > 0) 19 (λ h5=>?_) λ h5=>?_
  ·refine RN.goP 12 [.own 0,.nw,.nw,.nw] [0 <= (t * S.players)+(q:Int) /\ (0:Int) < (n:Int) /\ (t * S.players)+(q:Int) <= 9223372036854775807,I64 ((t * S.players)+(q:Int)),I64 (t * S.players)] λ _=>?_
   have hix1:=Int.emod_nonneg (t * S.players+(q:Int)) (show (n:Int) ≠ 0 by omega)
   have hix2:=Int.emod_lt_of_pos (t * S.players+(q:Int)) (show (0:Int) < n by omega)
   obtain ⟨qx6,ox6,Nx6,gx6,tyx6,fzx6,hAx6,hqx6,hox6,hgx6,hrx6⟩:=hl.at (k:=((t * S.players+(q:Int)) % (n:Int)).toNat) (by omega)
   refine RN.sv 20 (congrArg (λ v_=>(.slice v_ n cap:Value)) hAx6)<|RN.ro (λ _=>(mc hqx6 mn))<|RN.goP 2 [.ix ((((t * S.players)+(q:Int)) % (n:Int)).toNat),.rorow 0 (ox6+((((t * S.players)+(q:Int)) % (n:Int)).toNat)) 0] [(ox6+((((t * S.players)+(q:Int)) % (n:Int)).toNat) * 1)=(ox6+((((t * S.players)+(q:Int)) % (n:Int)).toNat)) * 1+0 /\ (ox6+((((t * S.players)+(q:Int)) % (n:Int)).toNat)) < Nx6,((t * S.players)+(q:Int)) % (n:Int)=(((((t * S.players)+(q:Int)) % (n:Int)).toNat:Nat):Int) /\ (((t * S.players)+(q:Int)) % (n:Int)).toNat < n] λ _=>RN.sv 31 (congrArg (λ v_=>(v_:Value)) hgx6)<|RN.cp (around_any (xs.getD (((t * S.players+(q:Int)) % (n:Int)).toNat) 0) 1000000 (by decide) _) ?_
   have hA7:=around_bd (n:=xs.getD (((t * S.players+(q:Int)) % (n:Int)).toNat) 0) hrx6 1000000 (by decide)
   refine RN.go 4 [] λ _=>RN.goP 22 [.nw,.nw,.nw,.nw,.nw,.own 0,.own 0,.own 0,.nw,.nw] [0 <= (around (xs.getD (((t * S.players+(q:Int)) % (n:Int)).toNat) 0) 1000000) / 9 /\ (0:Int) < 3 /\ (around (xs.getD (((t * S.players+(q:Int)) % (n:Int)).toNat) 0) 1000000) / 9 <= 9223372036854775807,0 <= around (xs.getD (((t * S.players+(q:Int)) % (n:Int)).toNat) 0) 1000000 /\ (0:Int) < 9 /\ around (xs.getD (((t * S.players+(q:Int)) % (n:Int)).toNat) 0) 1000000 <= 9223372036854775807,I64 ((((around (xs.getD (((t * S.players+(q:Int)) % (n:Int)).toNat) 0) 1000000) / 3) % 3) - 1),0 <= (around (xs.getD (((t * S.players+(q:Int)) % (n:Int)).toNat) 0) 1000000) / 3 /\ (0:Int) < 3 /\ (around (xs.getD (((t * S.players+(q:Int)) % (n:Int)).toNat) 0) 1000000) / 3 <= 9223372036854775807,0 <= around (xs.getD (((t * S.players+(q:Int)) % (n:Int)).toNat) 0) 1000000 /\ (0:Int) < 3 /\ around (xs.getD (((t * S.players+(q:Int)) % (n:Int)).toNat) 0) 1000000 <= 9223372036854775807,I64 (((around (xs.getD (((t * S.players+(q:Int)) % (n:Int)).toNat) 0) 1000000) % 3) - 1),0 <= around (xs.getD (((t * S.players+(q:Int)) % (n:Int)).toNat) 0) 1000000 /\ (0:Int) < 3 /\ around (xs.getD (((t * S.players+(q:Int)) % (n:Int)).toNat) 0) 1000000 <= 9223372036854775807] λ n8=>RN.em (((around (xs.getD (((t * S.players+(q:Int)) % (n:Int)).toNat) 0) 1000000) / 9) % 3=0) 44 (λ h9=>?_) λ h9=>?_
   ·refine RN.goP 13 [.nw,.nw,.own 0,.own 0,.own 0,.own 0] [0 <= (around (xs.getD (((t * S.players+(q:Int)) % (n:Int)).toNat) 0) 1000000) / 27 /\ (0:Int) < 4 /\ (around (xs.getD (((t * S.players+(q:Int)) % (n:Int)).toNat) 0) 1000000) / 27 <= 9223372036854775807,0 <= around (xs.getD (((t * S.players+(q:Int)) % (n:Int)).toNat) 0) 1000000 /\ (0:Int) < 27 /\ around (xs.getD (((t * S.players+(q:Int)) % (n:Int)).toNat) 0) 1000000 <= 9223372036854775807] λ n10=>?_
    have he_:rowI S.players xs t q=(⟨((around (xs.getD (((t * S.players+(q:Int)) % (n:Int)).toNat) 0) 1000000) % 3) - 1,(((around (xs.getD (((t * S.players+(q:Int)) % (n:Int)).toNat) 0) 1000000) / 3) % 3) - 1,((around (xs.getD (((t * S.players+(q:Int)) % (n:Int)).toNat) 0) 1000000) / 27) % 4⟩:Inp):=by
     unfold rowI
     rw [show rowN S.players xs t q=around (xs.getD (((t * S.players+(q:Int)) % (n:Int)).toNat) 0) 1000000 from by unfold rowN;rw [hl.len];rw [if_pos (by omega)]]
     first | rfl | (unfold rowOf;simp only [if_pos h9])
    refine RN.app inpEOk (rowL S.players xs t q) [(⟨((around (xs.getD (((t * S.players+(q:Int)) % (n:Int)).toNat) 0) 1000000) % 3) - 1,(((around (xs.getD (((t * S.players+(q:Int)) % (n:Int)).toNat) 0) 1000000) / 3) % 3) - 1,((around (xs.getD (((t * S.players+(q:Int)) % (n:Int)).toNat) 0) 1000000) / 27) % 4⟩:Inp)] 0 0 (rowL_len _ _ _ _).symm hs_ (by rw [rowL_len];show q+1 <= 100000000;omega) ?_
    rintro A11 c12 T13 ⟨hs14,hz15⟩
    refine RN.goP 9 [.nw] [I64 ((q:Int)+1)] λ _=>?_
    have hz2:=hz15 hz_
    refine mt3 (q+1,A11,c12,T13) [2] [0] ?_
    try dsimp only
    refine ⟨⟨by omega,?_,hz2⟩,by omega⟩
    rw [rowL_succ,he_]
    exact hs14
   ·refine RN.go 7 [.own 0,.own 0,.own 0] λ n16=>?_
    have he_:rowI S.players xs t q=(⟨((around (xs.getD (((t * S.players+(q:Int)) % (n:Int)).toNat) 0) 1000000) % 3) - 1,(((around (xs.getD (((t * S.players+(q:Int)) % (n:Int)).toNat) 0) 1000000) / 3) % 3) - 1,0⟩:Inp):=by
     unfold rowI
     rw [show rowN S.players xs t q=around (xs.getD (((t * S.players+(q:Int)) % (n:Int)).toNat) 0) 1000000 from by unfold rowN;rw [hl.len];rw [if_pos (by omega)]]
     first | rfl | (unfold rowOf;simp only [if_neg h9])
    refine RN.app inpEOk (rowL S.players xs t q) [(⟨((around (xs.getD (((t * S.players+(q:Int)) % (n:Int)).toNat) 0) 1000000) % 3) - 1,(((around (xs.getD (((t * S.players+(q:Int)) % (n:Int)).toNat) 0) 1000000) / 3) % 3) - 1,0⟩:Inp)] 0 0 (rowL_len _ _ _ _).symm hs_ (by rw [rowL_len];show q+1 <= 100000000;omega) ?_
    rintro A17 c18 T19 ⟨hs20,hz21⟩
    refine RN.goP 9 [.nw] [I64 ((q:Int)+1)] λ _=>?_
    have hz2:=hz21 hz_
    refine mt3 (q+1,A17,c18,T19) [2] [0] ?_
    try dsimp only
    refine ⟨⟨by omega,?_,hz2⟩,by omega⟩
    rw [rowL_succ,he_]
    exact hs20
  ·refine RN.go 4 [] λ _=>RN.go 35 (ow 0 7) λ n22=>?_
   have he_:rowI S.players xs t q=(⟨(-1),(-1),0⟩:Inp):=by
    unfold rowI
    rw [show rowN S.players xs t q=0 from by unfold rowN;rw [hl.len];rw [if_neg (by omega)]]
    rfl
   refine RN.app inpEOk (rowL S.players xs t q) [(⟨(-1),(-1),0⟩:Inp)] 0 0 (rowL_len _ _ _ _).symm hs_ (by rw [rowL_len];show q+1 <= 100000000;omega) ?_
   rintro A23 c24 T25 ⟨hs26,hz27⟩
   refine RN.goP 9 [.nw] [I64 ((q:Int)+1)] λ _=>?_
   have hz2:=hz27 hz_
   refine mt3 (q+1,A23,c24,T25) [2] [0] ?_
   try dsimp only
   refine ⟨⟨by omega,?_,hz2⟩,by omega⟩
   rw [rowL_succ,he_]
   exact hs26
 ·refine RN.go 12 [] λ _=>RN.ret [] [] [0] (v:=.slice A_ q c_) (H':=(ap [] [T_])) ?_
  have ei:q=S.players.toNat:=by omega
  subst ei
  exact ⟨(A_,c_,T_),rfl,rfl,hs_,hz_⟩
theorem clone_Body_some (a:Addr) (n c:Nat) (xs:List Bod) (F:HL) (hl:SrcIn Tryz.prog bodE F (some a) n xs) (hb:n <= 100000000):Sp Tryz.prog 104 #[.slice (some a) n c] [] F (λ u H'=>∃ x:Option Addr × Nat × HL,H'=ap [] [x.2.2] /\ (u=.slice x.1 n x.2.1 /\ ClS bodE 87 xs x.1 x.2.1 x.2.2)):=by
 refine Sp.run Tryz.func104 rfl mn (A:=[]) (Ts:=[]) rfl λ w0=>?_
 refine RN.go 19 [] λ n1=>RN.nt<|RN.appN (A:=(some ⟨(n1+0),0,none⟩)) (B:=(some a)) (c':=c) bodEOk xs 0 (λ a_ e_=>by cases e_;rfl) (m:=n) (tx:=23) hl.1.1.symm (by rw [hl.1.1];exact hb) (λ e_ he X w hR=>hl.2 c he X w hR) ?_
 rintro A2 c3 T4 hs5
 refine RN.go 3 [] λ _=>RN.ret [] [] [0] (v:=.slice A2 xs.length c3) (H':=(ap [] [T4])) ?_
 exact ⟨(A2,c3,T4),rfl,by rw [hl.1.1],_,hs5⟩
theorem clone_Body_none (c:Nat) (F:HL):Sp Tryz.prog 104 #[.slice none 0 c] [] F (λ u H'=>∃ x:Option Addr × Nat × HL,H'=ap [] [x.2.2] /\ (u=.slice x.1 0 x.2.1 /\ ClS bodE 87 [] x.1 x.2.1 x.2.2)):=by
 refine Sp.run Tryz.func104 rfl mn (A:=[]) (Ts:=[]) rfl λ w0=>?_
 refine RN.go 18 [] λ _=>RN.ret [] [] [] (v:=.slice none 0 0) (H':=(ap [] [])) ?_
 exact ⟨(none,0,[]),rfl,rfl,.nil _ _ _⟩
theorem clone_Body_any (A:Option Addr) (n c:Nat) (xs:List Bod) (F:HL) (hl:SrcIn Tryz.prog bodE F A n xs) (hb:n <= 100000000):Sp Tryz.prog 104 #[.slice A n c] (ap [] []) F (λ u H'=>∃ x:Option Addr × Nat × HL,H'=ap [] [x.2.2] /\ (u=.slice x.1 n x.2.1 /\ ClS bodE 87 xs x.1 x.2.1 x.2.2)):=by
 cases A with
 | some a=>exact clone_Body_some a n c xs F hl hb
 | none =>
  obtain rfl:n=0:=hl.1.2 rfl
  obtain rfl:xs=[]:=List.eq_nil_of_length_eq_zero hl.1.1
  exact clone_Body_none c F
theorem clone_Vec_some (a:Addr) (n c:Nat) (xs:List V2) (F:HL) (hl:SrcIn Tryz.prog vecE F (some a) n xs) (hb:n <= 100000000):Sp Tryz.prog 105 #[.slice (some a) n c] [] F (λ u H'=>∃ x:Option Addr × Nat × HL,H'=ap [] [x.2.2] /\ (u=.slice x.1 n x.2.1 /\ ClS vecE 29 xs x.1 x.2.1 x.2.2)):=by
 refine Sp.run Tryz.func105 rfl mn (A:=[]) (Ts:=[]) rfl λ w0=>?_
 refine RN.go 19 [] λ n1=>RN.nt<|RN.appN (A:=(some ⟨(n1+0),0,none⟩)) (B:=(some a)) (c':=c) vecEOk xs 0 (λ a_ e_=>by cases e_;rfl) (m:=n) (tx:=80) hl.1.1.symm (by rw [hl.1.1];exact hb) (λ e_ he X w hR=>hl.2 c he X w hR) ?_
 rintro A2 c3 T4 hs5
 refine RN.go 3 [] λ _=>RN.ret [] [] [0] (v:=.slice A2 xs.length c3) (H':=(ap [] [T4])) ?_
 exact ⟨(A2,c3,T4),rfl,by rw [hl.1.1],_,hs5⟩
theorem clone_Vec_none (c:Nat) (F:HL):Sp Tryz.prog 105 #[.slice none 0 c] [] F (λ u H'=>∃ x:Option Addr × Nat × HL,H'=ap [] [x.2.2] /\ (u=.slice x.1 0 x.2.1 /\ ClS vecE 29 [] x.1 x.2.1 x.2.2)):=by
 refine Sp.run Tryz.func105 rfl mn (A:=[]) (Ts:=[]) rfl λ w0=>?_
 refine RN.go 18 [] λ _=>RN.ret [] [] [] (v:=.slice none 0 0) (H':=(ap [] [])) ?_
 exact ⟨(none,0,[]),rfl,rfl,.nil _ _ _⟩
theorem clone_Vec_any (A:Option Addr) (n c:Nat) (xs:List V2) (F:HL) (hl:SrcIn Tryz.prog vecE F A n xs) (hb:n <= 100000000):Sp Tryz.prog 105 #[.slice A n c] (ap [] []) F (λ u H'=>∃ x:Option Addr × Nat × HL,H'=ap [] [x.2.2] /\ (u=.slice x.1 n x.2.1 /\ ClS vecE 29 xs x.1 x.2.1 x.2.2)):=by
 cases A with
 | some a=>exact clone_Vec_some a n c xs F hl hb
 | none =>
  obtain rfl:n=0:=hl.1.2 rfl
  obtain rfl:xs=[]:=List.eq_nil_of_length_eq_zero hl.1.1
  exact clone_Vec_none c F
theorem clone_Box_some (a:Addr) (n c:Nat) (xs:List Bx) (F:HL) (hl:SrcIn Tryz.prog bxE F (some a) n xs) (hb:n <= 100000000):Sp Tryz.prog 106 #[.slice (some a) n c] [] F (λ u H'=>∃ x:Option Addr × Nat × HL,H'=ap [] [x.2.2] /\ (u=.slice x.1 n x.2.1 /\ ClS bxE 25 xs x.1 x.2.1 x.2.2)):=by
 refine Sp.run Tryz.func106 rfl mn (A:=[]) (Ts:=[]) rfl λ w0=>?_
 refine RN.go 19 [] λ n1=>RN.nt<|RN.appN (A:=(some ⟨(n1+0),0,none⟩)) (B:=(some a)) (c':=c) bxEOk xs 0 (λ a_ e_=>by cases e_;rfl) (m:=n) (tx:=26) hl.1.1.symm (by rw [hl.1.1];exact hb) (λ e_ he X w hR=>hl.2 c he X w hR) ?_
 rintro A2 c3 T4 hs5
 refine RN.go 3 [] λ _=>RN.ret [] [] [0] (v:=.slice A2 xs.length c3) (H':=(ap [] [T4])) ?_
 exact ⟨(A2,c3,T4),rfl,by rw [hl.1.1],_,hs5⟩
theorem clone_Box_none (c:Nat) (F:HL):Sp Tryz.prog 106 #[.slice none 0 c] [] F (λ u H'=>∃ x:Option Addr × Nat × HL,H'=ap [] [x.2.2] /\ (u=.slice x.1 0 x.2.1 /\ ClS bxE 25 [] x.1 x.2.1 x.2.2)):=by
 refine Sp.run Tryz.func106 rfl mn (A:=[]) (Ts:=[]) rfl λ w0=>?_
 refine RN.go 18 [] λ _=>RN.ret [] [] [] (v:=.slice none 0 0) (H':=(ap [] [])) ?_
 exact ⟨(none,0,[]),rfl,rfl,.nil _ _ _⟩
theorem clone_Box_any (A:Option Addr) (n c:Nat) (xs:List Bx) (F:HL) (hl:SrcIn Tryz.prog bxE F A n xs) (hb:n <= 100000000):Sp Tryz.prog 106 #[.slice A n c] (ap [] []) F (λ u H'=>∃ x:Option Addr × Nat × HL,H'=ap [] [x.2.2] /\ (u=.slice x.1 n x.2.1 /\ ClS bxE 25 xs x.1 x.2.1 x.2.2)):=by
 cases A with
 | some a=>exact clone_Box_some a n c xs F hl hb
 | none =>
  obtain rfl:n=0:=hl.1.2 rfl
  obtain rfl:xs=[]:=List.eq_nil_of_length_eq_zero hl.1.1
  exact clone_Box_none c F
theorem clone_Door_some (a:Addr) (n c:Nat) (xs:List Dr) (F:HL) (hl:SrcIn Tryz.prog drE F (some a) n xs) (hb:n <= 100000000):Sp Tryz.prog 107 #[.slice (some a) n c] [] F (λ u H'=>∃ x:Option Addr × Nat × HL,H'=ap [] [x.2.2] /\ (u=.slice x.1 n x.2.1 /\ ClS drE 78 xs x.1 x.2.1 x.2.2)):=by
 refine Sp.run Tryz.func107 rfl mn (A:=[]) (Ts:=[]) rfl λ w0=>?_
 refine RN.go 19 [] λ n1=>RN.nt<|RN.appN (A:=(some ⟨(n1+0),0,none⟩)) (B:=(some a)) (c':=c) drEOk xs 0 (λ a_ e_=>by cases e_;rfl) (m:=n) (tx:=27) hl.1.1.symm (by rw [hl.1.1];exact hb) (λ e_ he X w hR=>hl.2 c he X w hR) ?_
 rintro A2 c3 T4 hs5
 refine RN.go 3 [] λ _=>RN.ret [] [] [0] (v:=.slice A2 xs.length c3) (H':=(ap [] [T4])) ?_
 exact ⟨(A2,c3,T4),rfl,by rw [hl.1.1],_,hs5⟩
theorem clone_Door_none (c:Nat) (F:HL):Sp Tryz.prog 107 #[.slice none 0 c] [] F (λ u H'=>∃ x:Option Addr × Nat × HL,H'=ap [] [x.2.2] /\ (u=.slice x.1 0 x.2.1 /\ ClS drE 78 [] x.1 x.2.1 x.2.2)):=by
 refine Sp.run Tryz.func107 rfl mn (A:=[]) (Ts:=[]) rfl λ w0=>?_
 refine RN.go 18 [] λ _=>RN.ret [] [] [] (v:=.slice none 0 0) (H':=(ap [] [])) ?_
 exact ⟨(none,0,[]),rfl,rfl,.nil _ _ _⟩
theorem clone_Door_any (A:Option Addr) (n c:Nat) (xs:List Dr) (F:HL) (hl:SrcIn Tryz.prog drE F A n xs) (hb:n <= 100000000):Sp Tryz.prog 107 #[.slice A n c] (ap [] []) F (λ u H'=>∃ x:Option Addr × Nat × HL,H'=ap [] [x.2.2] /\ (u=.slice x.1 n x.2.1 /\ ClS drE 78 xs x.1 x.2.1 x.2.2)):=by
 cases A with
 | some a=>exact clone_Door_some a n c xs F hl hb
 | none =>
  obtain rfl:n=0:=hl.1.2 rfl
  obtain rfl:xs=[]:=List.eq_nil_of_length_eq_zero hl.1.1
  exact clone_Door_none c F
theorem clone_Ins_some (a:Addr) (n c:Nat) (xs:List Ins) (F:HL) (hl:SrcIn Tryz.prog insE F (some a) n xs) (hb:n <= 100000000):Sp Tryz.prog 117 #[.slice (some a) n c] [] F (λ u H'=>∃ x:Option Addr × Nat × HL,H'=ap [] [x.2.2] /\ (u=.slice x.1 n x.2.1 /\ ClS insE 206 xs x.1 x.2.1 x.2.2)):=by
 refine Sp.run Tryz.func117 rfl mn (A:=[]) (Ts:=[]) rfl λ w0=>?_
 refine RN.go 19 [] λ n1=>RN.nt<|RN.appN (A:=(some ⟨(n1+0),0,none⟩)) (B:=(some a)) (c':=c) insEOk xs 0 (λ a_ e_=>by cases e_;rfl) (m:=n) (tx:=152) hl.1.1.symm (by rw [hl.1.1];exact hb) (λ e_ he X w hR=>hl.2 c he X w hR) ?_
 rintro A2 c3 T4 hs5
 refine RN.go 3 [] λ _=>RN.ret [] [] [0] (v:=.slice A2 xs.length c3) (H':=(ap [] [T4])) ?_
 exact ⟨(A2,c3,T4),rfl,by rw [hl.1.1],_,hs5⟩
theorem clone_Ins_none (c:Nat) (F:HL):Sp Tryz.prog 117 #[.slice none 0 c] [] F (λ u H'=>∃ x:Option Addr × Nat × HL,H'=ap [] [x.2.2] /\ (u=.slice x.1 0 x.2.1 /\ ClS insE 206 [] x.1 x.2.1 x.2.2)):=by
 refine Sp.run Tryz.func117 rfl mn (A:=[]) (Ts:=[]) rfl λ w0=>?_
 refine RN.go 18 [] λ _=>RN.ret [] [] [] (v:=.slice none 0 0) (H':=(ap [] [])) ?_
 exact ⟨(none,0,[]),rfl,rfl,.nil _ _ _⟩
theorem clone_Ins_any (A:Option Addr) (n c:Nat) (xs:List Ins) (F:HL) (hl:SrcIn Tryz.prog insE F A n xs) (hb:n <= 100000000):Sp Tryz.prog 117 #[.slice A n c] (ap [] []) F (λ u H'=>∃ x:Option Addr × Nat × HL,H'=ap [] [x.2.2] /\ (u=.slice x.1 n x.2.1 /\ ClS insE 206 xs x.1 x.2.1 x.2.2)):=by
 cases A with
 | some a=>exact clone_Ins_some a n c xs F hl hb
 | none =>
  obtain rfl:n=0:=hl.1.2 rfl
  obtain rfl:xs=[]:=List.eq_nil_of_length_eq_zero hl.1.1
  exact clone_Ins_none c F
end Go.Proofs.YtcfajdgeejeieaaGreatDoor
