import Derived.Test.YtdppjkjbghbnjaaGreatDoorY06
set_option maxHeartbeats 4000000
set_option maxRecDepth 100000
set_option linter.all false
namespace Go.Proofs.YtdppjkjbghbnjaaGreatDoor
open Go.RowKit
def Mz(xs:List Int):Int:=1+kv xs 0 % 3
def tP(xs:List Int):Int:=Mz xs+kv xs 3 / 3 % 3
def bN(xs:List Int)(i:Nat):Int:=kv xs (4+2*i)
def bM(xs:List Int)(i:Nat):Int:=kv xs (5+2*i)
def wz(xs:List Int)(i:Nat)(A:Option Addr)(c:Nat):Bod:=⟨⟨(dm (bN xs i)).1,(dm (bN xs i)).2,A,c⟩,⟨((((bN xs i) / 1000) % 13)-6)*900,((((bM xs i) / 50) % 11)-5)*800,((((bM xs i) / 550) % 9)-4)*300,((((bN xs i) / 13000) % 9)-4)*300,([1024,1024,512,2048,0]:List Int).getD (((bM xs i) / 5000) % 5).toNat 0⟩,(bM xs i) % 50,(bN xs i) % 7⟩
def z8(a b c:Nat)(i:Nat):Option Addr:=match i with|0=>some ⟨a,0,none⟩|1=>some ⟨b,0,none⟩|_=>some ⟨c,0,none⟩
def ls(i:Nat):Nat:=match i with|0=>0|1=>1|_=>2
def Ek(a b c:Nat):Nat -> Nat -> Value:=λ i _=>.slice (z8 a b c i) (ls i) (ls i)
theorem xU{F:HL}{A:Option Addr}{n:Nat}{xs:List Int}(h:ArgL F A n xs):1 <= Mz xs /\ Mz xs <= 3:=by
 have:=jD h 0;unfold Mz;omega
theorem sZ{F:HL}{A:Option Addr}{n:Nat}{xs:List Int}(h:ArgL F A n xs):1 <= tP xs /\ tP xs <= 5 /\ Mz xs <= tP xs:=by
 have:=jD h 0;have:=jD h 3;unfold tP Mz;omega
theorem JD{xs rest:List Int}{n i:Nat}(h:i<n):(ks xs n++rest).getD i 0=kv xs i:=by
 rw[List.getD_eq_getElem?_getD,List.getElem?_append_left (by rw[pd];exact h),<- List.getD_eq_getElem?_getD,O8 h]
theorem tQ{α:Type}{l r:List α}{i:Nat}{d:α}(h:i<l.length):(l++r).getD i d=l.getD i d:=by
 rw[List.getD_eq_getElem?_getD,List.getElem?_append_left h,<- List.getD_eq_getElem?_getD]
theorem wA{α:Type}{l:List α}{x d:α}:(l++[x]).getD l.length d=x:=by simp
theorem ShH.left{s:Shp}{T X:HL}(h:ShH s T):ShH s (T++X):=λ F hF=>h F λ x hx=>hF x (List.mem_append_left _ hx)
theorem ShH.right{s:Shp}{T X:HL}(h:ShH s X):ShH s (T++X):=λ F hF=>h F λ x hx=>hF x (List.mem_append_right _ hx)
theorem CQ{F:HL}{a b c:Nat}(hb:(b,.rows 2 1 (aL pf (gD 1)) 81 (0,0))∈F)(hc:(c,.rows 2 2 (aL pf (gD 2)) 81 (0,0))∈F):∀i:Nat,RowL pf 81 F (z8 a b c i) (ls i) (gD i)
 | 0=>.zero _
 | 1=>RowL.whole (xs:=gD 1) hb (Nat.le_refl _)
 | _+2=>RowL.whole (xs:=gD 2) hc (Nat.le_refl _)
structure SetG(xs:List Int)(S:Setup)(T:HL):Prop where
 pl:S.players=Mz xs
 nb:(S.nb:Int)=tP xs
 bo:S.bo=0
 cap:S.nb <= S.bc
 room:S.bo+S.nb <= S.bR
 nums:S.box=⟨-12000,-9000,12000,9000⟩ /\ S.fog=4000+(kv xs 1 % 9)*1000 /\ S.g=⟨0,(-((kv xs 2 / 36) % 3))*40⟩ /\ S.push=((kv xs 1 / 9) % 5)*100 /\ S.drag=(kv xs 2 % 4)*100 /\ S.rest=((kv xs 2 / 4) % 3)*512 /\ S.rounds=1+(kv xs 2 / 12) % 3 /\ S.fuel=60
 bod:∀j,j<S.nb -> ∃A c,S.body j=wz xs j A c
 sin:∀F,(S.bb,.rows 9 S.bR (kW S.bods) 90 (0,0))∈F -> (∀x∈T,x∈F) -> SetIn F S
 maps:(S.rn=3 /\ S.dn=ls (kv xs 3 % 3).toNat) /\ ∀F,(∀x∈T,x∈F) -> MapIn F S j8 (gD (kv xs 3 % 3).toNat)
theorem lu(A:Option Addr)(n cap:Nat)(xs:List Int)(F:HL)(hl:ArgL F A n xs)(hn:n <= 9223372036854775807):Sp Tryz.prog 10 #[.slice A n cap] (ap [] []) F (λ u H'=>∃x:Setup × HL,H'=ap [(x.1.bb,.rows 9 x.1.bR (kW x.1.bods) 90 (0,0))] [x.2] /\ (u=Setup.v x.1 /\ SetG xs x.1 x.2)):=by
 refine aav Tryz.func10 rfl mn (A:=[]) (Ts:=[]) rfl λ w0=>?_;refine ae 17 [] λ n1=>aap<|aao (σ:=Nat × Option Addr × Nat × HL) (λ ⟨i,A_,c_,T_⟩=>⟨[(0,.slice A n cap),(2,vP (n1+0) 0),(3,.slice A_ i c_),(4,vI (i:Int))],[((n1+0),.lit [vI 0,.slice none 0 0,vI 0,vI 0,vI 0,vI 0,.slice none 0 0,.slice none 0 0,vI 0,vI 0,vI 0,vI 0,vI 0,vI 0,vI 0,vI 0] 31 (0,0))],[T_],i <= 24 /\ SlIs CP 3 (ks xs i) A_ c_ T_ /\ bA A_,24-i⟩) (0,none,0,[]) [0] [0] (⟨Nat.zero_le _,aau _ _,trivial⟩) ?_;rintro⟨i,A_,c_,T_⟩ ⟨Xc,IT,YN⟩ Th;refine ae 7 [] λ _=>aam ((i:Int)<24) 12 (λ h4=>?_) λ h4=>?_
 ·refine ae 19 [] λ _=>aam ((i:Int)<(n:Int)) 18 (λ h5=>?_) λ h5=>?_
  ·refine ae 4 [] λ _=>?_;obtain⟨qx6,Yt,Nx6,gx6,aj8,aiM,aba,ZQ,ahq,Z2,aen⟩:=hl.at (k:=i) (by omega);refine aC 19 (congrArg (λ v_=>(.slice v_ n cap:Value)) aba)<|aar (λ _=>(mc ZQ mn))<|ah 2 [.ix i,.rorow 0 (Yt+i) 0] [(Yt+i*1)=(Yt+i)*1+0 /\ (Yt+i)<Nx6,(i:Int)=((i:Nat):Int) /\ i<n] λ _=>aC 22 (congrArg (λ v_=>(v_:Value)) Z2)<|aai (eT (xs.getD i 0) 1000000 (by decide) _) ?_;have hA7:=aA (n:=xs.getD i 0) aen 1000000 (by decide);refine ae 7 [] λ n8=>fG JB (ks xs i) [ai (xs.getD i 0) 1000000] 0 0 (pd xs i).symm IT (by rw[pd];show i+1 <= 100000000;omega) ?_;rintro A9 YG Tt ⟨WA,Zx⟩;refine ah 9 [.nw] [aI ((i:Int)+1)] λ _=>?_;have Zw:=Zx YN;refine Th (i+1,A9,YG,Tt) [1] [0] ?_
   try dsimp only
   refine⟨⟨by omega,?_,Zw⟩,by omega⟩;rw[Ej,show kv xs i=_ from by unfold kv;rw[if_pos (by rw[hl.len];omega)]];exact WA
  ·refine ae 7 [] λ n14=>fG JB (ks xs i) [0] 0 0 (pd xs i).symm IT (by rw[pd];show i+1 <= 100000000;omega) ?_;rintro A15 c16 Us ⟨TT,YO⟩;refine ah 9 [.nw] [aI ((i:Int)+1)] λ _=>?_;have Zw:=YO YN;refine Th (i+1,A15,c16,Us) [1] [0] ?_
   try dsimp only
   refine⟨⟨by omega,?_,Zw⟩,by omega⟩;rw[Ej,show kv xs i=_ from by unfold kv;rw[if_neg (by rw[hl.len];omega)]];exact TT
 ·refine ae 7 [] λ _=>?_;have ei:i=24:=by omega
  subst ei;obtain⟨kb,rest,rfl,rfl,Xf⟩:=IT.open0 YN (by decide) (by rw[pd];decide);have hcap:24 <= c_:=by rw[pd] at Xf;exact Xf
  refine pS 0 (x:=(kb,.rows 1 c_ (aL CP (ks xs 24++rest)) 3 (0,0))) ?_;have ZZ:=jD hl 0;have VN:=jD hl 1;have XD:=jD hl 2;have hk3:=jD hl 3;have hse:tP xs=1+kv xs 0 % 3+kv xs 3 / 3 % 3:=rfl;have hsc:=sZ hl;have Yw:=xU hl;refine aal [37] []<|av [] [0,5,6,12,18,23,29,1,7,13,19,24,30,2,8,14,20,25,31,3,9,15,21,26,32,4,10,16,22,27,33,11,17,28,34,35] [.row 0 0 0,.row 0 1 0,.row 0 1 0,.row 0 2 0,.row 0 2 0,.row 0 2 0,.nw,.nw,.nw,.nw,.nw,.nw,.nw,.nw,.nw,.nw,.nw,.nw,.nw,.nw,.nw,.nw] [aI (1+(((kv xs 2) / 12) % 3)),aI ((((kv xs 2) / 4) % 3)*512),aI ((((kv xs 1) / 9) % 5)*100),aI (4000+(((kv xs 1) % 9)*1000)),0 <= (kv xs 2) / 12 /\ (0:Int)<3 /\ (kv xs 2) / 12 <= 9223372036854775807,0 <= (kv xs 2) / 4 /\ (0:Int)<3 /\ (kv xs 2) / 4 <= 9223372036854775807,aI (((kv xs 2) % 4)*100),0 <= (kv xs 1) / 9 /\ (0:Int)<5 /\ (kv xs 1) / 9 <= 9223372036854775807,aI (((kv xs 1) % 9)*1000),aI (1+((kv xs 0) % 3)),0 <= kv xs 2 /\ (0:Int)<12 /\ kv xs 2 <= 9223372036854775807,0 <= kv xs 2 /\ (0:Int)<4 /\ kv xs 2 <= 9223372036854775807,0 <= kv xs 2 /\ (0:Int)<4 /\ kv xs 2 <= 9223372036854775807,0 <= kv xs 1 /\ (0:Int)<9 /\ kv xs 1 <= 9223372036854775807,0 <= kv xs 1 /\ (0:Int)<9 /\ kv xs 1 <= 9223372036854775807,0 <= kv xs 0 /\ (0:Int)<3 /\ kv xs 0 <= 9223372036854775807,2=2*1+0 /\ 2<c_,2=2*1+0 /\ 2<c_,2=2*1+0 /\ 2<c_,1=1*1+0 /\ 1<c_,1=1*1+0 /\ 1<c_,0=0*1+0 /\ 0<c_]<|aae 36 (aag [] [] λ Yu=>?_);refine aae 37 (aag [] (ow 0 16) λ _=>?_);refine aad<|ah 38 [.row 1 2 0,.nw,.nw,.nw,.nw,.own 0,.own 0,.own 1,.row 6 3 0,.nw] [0 <= kv xs 3 /\ (0:Int)<3 /\ kv xs 3 <= 9223372036854775807,3=3*1+0 /\ 3<c_,aI ((-(((kv xs 2) / 36) % 3))*40),-9223372036854775807 <= ((kv xs 2) / 36) % 3 /\ ((kv xs 2) / 36) % 3 <= 9223372036854775808,0 <= (kv xs 2) / 36 /\ (0:Int)<3 /\ (kv xs 2) / 36 <= 9223372036854775807,0 <= kv xs 2 /\ (0:Int)<36 /\ kv xs 2 <= 9223372036854775807,2=2*1+0 /\ 2<c_] λ TP=>aak 0 (.rows 1 3 (Ek (TP+1) (TP+2) (TP+3)) 27 (0,0))<|ah 13 [.ix (((kv xs 3) % 3).toNat),.row 0 (((kv xs 3) % 3).toNat) 0,.own 5] [(0+(((kv xs 3) % 3).toNat)*1)=(((kv xs 3) % 3).toNat)*1+0 /\ (((kv xs 3) % 3).toNat)<3,(kv xs 3) % 3=((((kv xs 3) % 3).toNat:Nat):Int) /\ ((kv xs 3) % 3).toNat<3] λ _=>aap<|aap<|aao (σ:=Nat × List Bod × Option Addr × Nat × HL × HL) (λ ⟨j,bods,B_,d_,V_,U_⟩=>⟨[(2,vP (n1+0) 0),(3,vS kb 0 24 c_),(6,vP (Yu+0) 0),(7,vI (j:Int))],[((TP+4),.rows 1 3 (Ek (TP+1) (TP+2) (TP+3)) 27 (0,0)),((TP+3),.lit [vI 0,vI 2,vI 1,vI 2] 81 (0,0)),((TP+2),.lit [vI 0,vI 1] 81 (0,0)),((TP+1),.lit [] 81 (0,0)),((TP+0),.lit [vI (-12000),vI (-9000),vI (-1),vI 9000,vI 0,vI 0,vI 12000,vI 9000,vI 0,vI (-9000),vI 12000,vI (-1)] 25 (0,0)),((Yu+0),.lit [vI (1+((kv xs 0) % 3)),.slice B_ j d_,vI (-12000),vI (-9000),vI 12000,vI 9000,vS (TP+0) 0 3 3,.slice (z8 (TP+1) (TP+2) (TP+3) (((kv xs 3) % 3).toNat)) (ls (((kv xs 3) % 3).toNat)) (ls (((kv xs 3) % 3).toNat)),vI (4000+(((kv xs 1) % 9)*1000)),vI 0,vI ((-(((kv xs 2) / 36) % 3))*40),vI ((((kv xs 1) / 9) % 5)*100),vI (((kv xs 2) % 4)*100),vI ((((kv xs 2) / 4) % 3)*512),vI (1+(((kv xs 2) / 12) % 3)),vI 60] 31 (0,0)),(kb,.rows 1 c_ (aL CP (ks xs 24++rest)) 3 (0,0)),((n1+0),.lit [vI 0,.slice none 0 0,vI 0,vI 0,vI 0,vI 0,.slice none 0 0,.slice none 0 0,vI 0,vI 0,vI 0,vI 0,vI 0,vI 0,vI 0,vI 0] 31 (0,0))],[V_,U_],(j:Int) <= tP xs /\ bods.length=j /\ (∀t,t<j -> ∃A c,bods.getD t dB=wz xs t A c) /\ (∀t,t<j -> ShH (bods.getD t dB).sh U_) /\ SlIs mH 90 bods B_ d_ V_ /\ bA B_,(tP xs).toNat-j⟩) (0,[],none,0,[],[]) [0,1,2,3,4,5,6,7] [0,1] (⟨by show (0:Int) <= _;omega,rfl,λ t ht=>absurd ht (Nat.not_lt_zero _),λ t ht=>absurd ht (Nat.not_lt_zero _),aau _ _,trivial⟩) ?_;rintro⟨j,bods,B_,d_,V_,U_⟩ ⟨hj_,VB,hb_,ZH,ab5,agL⟩ aks;refine ae 2 [] λ _=>aal [] []<|av [] [0,1,3,2,4,5,6,7,8,9] [.own 5,.row 6 3 0,.nw,.nw,.nw] [aI ((1+((kv xs 0) % 3))+(((kv xs 3) / 3) % 3)),0 <= (kv xs 3) / 3 /\ (0:Int)<3 /\ (kv xs 3) / 3 <= 9223372036854775807,0 <= kv xs 3 /\ (0:Int)<3 /\ kv xs 3 <= 9223372036854775807,3=3*1+0 /\ 3<c_]<|aad<|ae 1 [] λ _=>aam ((j:Int)<(1+((kv xs 0) % 3))+(((kv xs 3) / 3) % 3)) 101 (λ h24=>?_) λ h24=>?_
  ·refine ah 13 [.nw,.nw,.ix ((4+(2*(j:Int))).toNat),.row 6 ((4+(2*(j:Int))).toNat) 0] [(0+((4+(2*(j:Int))).toNat)*1)=((4+(2*(j:Int))).toNat)*1+0 /\ ((4+(2*(j:Int))).toNat)<c_,4+(2*(j:Int))=(((4+(2*(j:Int))).toNat:Nat):Int) /\ (4+(2*(j:Int))).toNat<24,aI (4+(2*(j:Int))),aI (2*(j:Int))] λ _=>aC 109 (congrArg (λ v_=>(vI v_:Value)) (JD (xs:=xs) (rest:=rest) (n:=24) (i:=4+2*j) (by omega))) ?_;have hbN:=jD hl (4+2*j);rw[show kv xs (4+2*j)=bN xs j from rfl] at hbN;refine ah 11 [.nw,.nw,.ix ((5+(2*(j:Int))).toNat),.row 6 ((5+(2*(j:Int))).toNat) 0] [(0+((5+(2*(j:Int))).toNat)*1)=((5+(2*(j:Int))).toNat)*1+0 /\ ((5+(2*(j:Int))).toNat)<c_,5+(2*(j:Int))=(((5+(2*(j:Int))).toNat:Nat):Int) /\ (5+(2*(j:Int))).toNat<24,aI (5+(2*(j:Int))),aI (2*(j:Int))] λ _=>aC 115 (congrArg (λ v_=>(vI v_:Value)) (JD (xs:=xs) (rest:=rest) (n:=24) (i:=5+2*j) (by omega))) ?_;have hbM:=jD hl (5+2*j);rw[show kv xs (5+2*j)=bM xs j from rfl] at hbM;refine ae 6 [] λ _=>aaj (Hp:=[]) (Tp:=[]) [] [] (z6 (bN xs j) _) ?_;rintro _ ⟨A25,c26,Xy⟩ ⟨rfl,ade⟩;dsimp only at ade;refine ah 37 ([.nw,.nw]++ow 0 9++[.nw,.nw,.nw,.nw,.nw,.nw,.nw,.nw,.nw,.nw,.nw,.nw,.nw,.nw,.nw,.nw,.nw,.nw]) [0 <= (bM xs j) / 5000 /\ (0:Int)<5 /\ (bM xs j) / 5000 <= 9223372036854775807,0 <= bM xs j /\ (0:Int)<5000 /\ bM xs j <= 9223372036854775807,aI (((((bN xs j) / 13000) % 9)-4)*300),aI ((((bN xs j) / 13000) % 9)-4),0 <= (bN xs j) / 13000 /\ (0:Int)<9 /\ (bN xs j) / 13000 <= 9223372036854775807,0 <= bN xs j /\ (0:Int)<13000 /\ bN xs j <= 9223372036854775807,aI (((((bM xs j) / 550) % 9)-4)*300),aI ((((bM xs j) / 550) % 9)-4),0 <= (bM xs j) / 550 /\ (0:Int)<9 /\ (bM xs j) / 550 <= 9223372036854775807,0 <= bM xs j /\ (0:Int)<550 /\ bM xs j <= 9223372036854775807,aI (((((bM xs j) / 50) % 11)-5)*800),aI ((((bM xs j) / 50) % 11)-5),0 <= (bM xs j) / 50 /\ (0:Int)<11 /\ (bM xs j) / 50 <= 9223372036854775807,0 <= bM xs j /\ (0:Int)<50 /\ bM xs j <= 9223372036854775807,aI (((((bN xs j) / 1000) % 13)-6)*900),aI ((((bN xs j) / 1000) % 13)-6),0 <= (bN xs j) / 1000 /\ (0:Int)<13 /\ (bN xs j) / 1000 <= 9223372036854775807,0 <= bN xs j /\ (0:Int)<1000 /\ bN xs j <= 9223372036854775807,0 <= bN xs j /\ (0:Int)<7 /\ bN xs j <= 9223372036854775807,0 <= bM xs j /\ (0:Int)<50 /\ bM xs j <= 9223372036854775807] λ n29=>aak 0 (.rows 1 5 (aB [1024,1024,512,2048,0]) 3 (0,0))<|ah 12 ([.ix ((((bM xs j) / 5000) % 5).toNat),.row 0 ((((bM xs j) / 5000) % 5).toNat) 0]++ow 1 5++[.own 7]++ow 1 9) [(0+((((bM xs j) / 5000) % 5).toNat)*1)=((((bM xs j) / 5000) % 5).toNat)*1+0 /\ ((((bM xs j) / 5000) % 5).toNat)<5,((bM xs j) / 5000) % 5=(((((bM xs j) / 5000) % 5).toNat:Nat):Int) /\ (((bM xs j) / 5000) % 5).toNat<5] λ n30=>fG Cp bods [wz xs j A25 c26] 1 0 VB.symm ab5 (by rw[VB];show j+1 <= 100000000;omega) ?_;rintro A31 c32 T33 ⟨ab4,akI⟩;refine ah 10 [.own 8,.nw] [aI ((j:Int)+1)] λ _=>?_;have Zw:=akI agL;refine tw [2,1,0]<|wb ?_;refine aks (j+1,bods++[(wz xs j A25 c26)],A31,c32,T33,U_++Xy) [3,4,5,6,7,8,9,10] [1,0] ?_
   try dsimp only
   refine⟨⟨by omega,by rw[List.length_append,VB];rfl,?_,?_,ab4,Zw⟩,by omega⟩
   ·intro t ht;rcases Nat.lt_or_ge t j with h|h
    ·rw[tQ (by omega)];exact hb_ t h
    ·have:t=bods.length:=by omega
     subst this;rw[wA,VB];exact⟨_,_,rfl⟩
   ·intro t ht;rcases Nat.lt_or_ge t j with h|h
    ·rw[tQ (by omega)];exact(ZH t h).left
    ·have:t=bods.length:=by omega
     subst this;rw[wA];exact ShH.right ade
  ·refine ae 7 [] λ _=>?_;have ej:(j:Int)=tP xs:=by unfold tP Mz;unfold tP Mz at hj_;omega
   obtain⟨bb,Wh,rfl,rfl,Vx⟩:=ab5.open0 agL (by decide) (by rw[VB];omega);refine pS 0 (x:=(bb,.rows 9 d_ (aL mH (bods++Wh)) 90 (0,0)))<|ae 5 (ow 6 16++ow 8 16) λ _=>aak 5 (.rows 4 3 (aL z7 j8) 25 (0,0))<|aak 3 (.rows 2 1 (aL pf (gD 1)) 81 (0,0))<|aak 2 (.rows 2 2 (aL pf (gD 2)) 81 (0,0))<|aaq (ow 8 16) [0,5,3,2] [0] (v:=.agg #[vI (1+((kv xs 0) % 3)),vS bb 0 j d_,vI (-12000),vI (-9000),vI 12000,vI 9000,vS (TP+0) 0 3 3,.slice (z8 (TP+1) (TP+2) (TP+3) (((kv xs 3) % 3).toNat)) (ls (((kv xs 3) % 3).toNat)) (ls (((kv xs 3) % 3).toNat)),vI (4000+(((kv xs 1) % 9)*1000)),vI 0,vI ((-(((kv xs 2) / 36) % 3))*40),vI ((((kv xs 1) / 9) % 5)*100),vI (((kv xs 2) % 4)*100),vI ((((kv xs 2) / 4) % 3)*512),vI (1+(((kv xs 2) / 12) % 3)),vI 60]) (H':=(ap [(bb,.rows 9 d_ (aL mH (bods++Wh)) 90 (0,0)),((TP+0),.rows 4 3 (aL z7 j8) 25 (0,0)),((TP+2),.rows 2 1 (aL pf (gD 1)) 81 (0,0)),((TP+3),.rows 2 2 (aL pf (gD 2)) 81 (0,0))] [U_])) ?_;have aaD:∀k,k<j -> (bods++Wh).getD (0+k) dB=bods.getD k dB:=λ k hk=>by rw[Nat.zero_add,tQ (by omega)]
   refine⟨((⟨1+((kv xs 0) % 3),bb,0,j,d_,d_,bods++Wh,⟨-12000,-9000,12000,9000⟩,some ⟨(TP+0),0,none⟩,3,3,z8 (TP+1) (TP+2) (TP+3) (kv xs 3 % 3).toNat,ls (kv xs 3 % 3).toNat,ls (kv xs 3 % 3).toNat,4000+(((kv xs 1) % 9)*1000),⟨0,(-(((kv xs 2) / 36) % 3))*40⟩,(((kv xs 1) / 9) % 5)*100,((kv xs 2) % 4)*100,(((kv xs 2) / 4) % 3)*512,1+(((kv xs 2) / 12) % 3),60⟩:Setup),[((TP+0),.rows 4 3 (aL z7 j8) 25 (0,0)),((TP+2),.rows 2 1 (aL pf (gD 1)) 81 (0,0)),((TP+3),.rows 2 2 (aL pf (gD 2)) 81 (0,0))]++U_),(by simp[ap]),rfl,?_⟩;refine⟨rfl,ej,rfl,(by rw[VB] at Vx;exact Vx),(by rw[VB] at Vx;show 0+j <= d_;omega),⟨rfl,rfl,rfl,rfl,rfl,rfl,rfl,rfl⟩,λ k hk=>?_,λ F hbF hF=>⟨⟨by show (0:Int) <= 1+kv xs 0 % 3 /\ 1+kv xs 0 % 3 <= 1000000;omega,by show j <= 1000000;omega⟩,hbF,by show 0+j <= d_;rw[VB] at Vx;omega,λ k hk=>?_⟩,⟨⟨rfl,rfl⟩,λ F hF=>⟨RowL.whole (xs:=j8) (hF _ (List.mem_append_left _ (List.mem_cons_self))) (Nat.le_refl _),CQ (hF _ (List.mem_append_left _ (List.mem_cons_of_mem _ (List.mem_cons_self)))) (hF _ (List.mem_append_left _ (List.mem_cons_of_mem _ (List.mem_cons_of_mem _ (List.mem_cons_self))))) _⟩⟩⟩
   ·obtain⟨A,c,h⟩:=hb_ k hk;exact⟨A,c,by show (bods++Wh).getD (0+k) dB=_;rw[aaD k hk];exact h⟩
   ·show ShIn F ((bods++Wh).getD (0+k) dB).sh;rw[aaD k hk];exact ZH k hk F λ x hx=>hF x (by simp[hx])
def rowN(pl:Int)(xs:List Int)(t:Int)(q:Nat):Int:=if xs.length>0 then ai (xs.getD ((t*pl+(q:Int)) % (xs.length:Int)).toNat 0) 1000000 else 0
def Ac(n:Int):Inp:=⟨n % 3-1,n / 3 % 3-1,if n / 9 % 3=0 then n / 27 % 4 else 0⟩
def xV(pl:Int)(xs:List Int)(t:Int)(q:Nat):Inp:=Ac (rowN pl xs t q)
def rowL(pl:Int)(xs:List Int)(t:Int)(n:Nat):List Inp:=(List.range n).map (xV pl xs t)
theorem bV(pl:Int)(xs:List Int)(t:Int)(n:Nat):(rowL pl xs t n).length=n:=by simp[rowL]
theorem qU(pl:Int)(xs:List Int)(t:Int)(n:Nat):rowL pl xs t (n+1)=rowL pl xs t n++[xV pl xs t n]:=by simp[rowL,List.range_succ]
theorem JE{pl:Int}{xs:List Int}{t:Int}{n i:Nat}(h:i<n):(rowL pl xs t n).getD i dI=xV pl xs t i:=by simp[rowL,h]
theorem MA{F:HL}{A:Option Addr}{n:Nat}{xs:List Int}(h:ArgL F A n xs)(pl t:Int)(q:Nat):0 <= rowN pl xs t q /\ rowN pl xs t q<1000000:=by
 unfold rowN;split
 ·next hi =>
  rw[h.len] at hi;have h1:=Int.emod_nonneg (t*pl+(q:Int)) (show (n:Int)≠0 by omega);have h2:=Int.emod_lt_of_pos (t*pl+(q:Int)) (show (0:Int)<n by omega);rw[h.len];obtain⟨_,_,_,_,_,_,_,_,_,_,hr⟩:=h.at (k:=((t*pl+(q:Int)) % (n:Int)).toNat) (by omega);exact aA hr 1000000 (by decide)
 ·omega
theorem nR(S:Setup)(A:Option Addr)(n cap:Nat)(xs:List Int)(t:Int)(F:HL)(hl:ArgL F A n xs)(hn:n <= 9223372036854775807)(hp:0 <= S.players /\ S.players <= 1000000)(ht:0 <= t /\ t <= 1000000):Sp Tryz.prog 30 #[Setup.v S,.slice A n cap,vI t] (ap [] []) F (λ u H'=>∃x:Option Addr × Nat × HL,H'=ap [] [x.2.2] /\ (u=.slice x.1 S.players.toNat x.2.1 /\ SlIs cS 40 (rowL S.players xs t S.players.toNat) x.1 x.2.1 x.2.2 /\ bA x.1)):=by
 have hm:0 <= t*S.players /\ t*S.players <= 1000000000000:=⟨Int.mul_nonneg ht.1 hp.1,Int.le_trans (Int.mul_le_mul ht.2 hp.2 hp.1 (by decide)) (by decide)⟩;refine aav Tryz.func30 rfl mn (A:=[]) (Ts:=[]) rfl λ w0=>?_;refine ae 18 [] λ n1=>aap<|aao (σ:=Nat × Option Addr × Nat × HL) (λ ⟨q,A_,c_,T_⟩=>⟨[(1,.slice A n cap),(2,vI t),(3,vP (n1+0) 0),(7,.slice A_ q c_),(8,vI (q:Int))],[((n1+0),.lit (Setup.l S) 31 (0,0))],[T_],(q:Int) <= S.players /\ SlIs cS 40 (rowL S.players xs t q) A_ c_ T_ /\ bA A_,S.players.toNat-q⟩) (0,none,0,[]) [0] [0] (⟨by show (0:Int) <= _;omega,aau _ _,trivial⟩) ?_;rintro⟨q,A_,c_,T_⟩ ⟨Xc,IT,YN⟩ Th;refine ae 9 [.own 0] λ _=>aam ((q:Int)<S.players) 14 (λ h4=>?_) λ h4=>?_
 ·refine ae 18 [] λ _=>aam ((n:Int)>0) 19 (λ h5=>?_) λ h5=>?_
  ·refine ah 12 [.own 0,.nw,.nw,.nw] [0 <= (t*S.players)+(q:Int) /\ (0:Int)<(n:Int) /\ (t*S.players)+(q:Int) <= 9223372036854775807,aI ((t*S.players)+(q:Int)),aI (t*S.players)] λ _=>?_;have ar_:=Int.emod_nonneg (t*S.players+(q:Int)) (show (n:Int)≠0 by omega);have ar9:=Int.emod_lt_of_pos (t*S.players+(q:Int)) (show (0:Int)<n by omega);obtain⟨qx6,Yt,Nx6,gx6,aj8,aiM,aba,ZQ,ahq,Z2,aen⟩:=hl.at (k:=((t*S.players+(q:Int)) % (n:Int)).toNat) (by omega);refine aC 20 (congrArg (λ v_=>(.slice v_ n cap:Value)) aba)<|aar (λ _=>(mc ZQ mn))<|ah 2 [.ix ((((t*S.players)+(q:Int)) % (n:Int)).toNat),.rorow 0 (Yt+((((t*S.players)+(q:Int)) % (n:Int)).toNat)) 0] [(Yt+((((t*S.players)+(q:Int)) % (n:Int)).toNat)*1)=(Yt+((((t*S.players)+(q:Int)) % (n:Int)).toNat))*1+0 /\ (Yt+((((t*S.players)+(q:Int)) % (n:Int)).toNat))<Nx6,((t*S.players)+(q:Int)) % (n:Int)=(((((t*S.players)+(q:Int)) % (n:Int)).toNat:Nat):Int) /\ (((t*S.players)+(q:Int)) % (n:Int)).toNat<n] λ _=>aC 31 (congrArg (λ v_=>(v_:Value)) Z2)<|aai (eT (xs.getD (((t*S.players+(q:Int)) % (n:Int)).toNat) 0) 1000000 (by decide) _) ?_;have hA7:=aA (n:=xs.getD (((t*S.players+(q:Int)) % (n:Int)).toNat) 0) aen 1000000 (by decide);refine ae 4 [] λ _=>ah 22 [.nw,.nw,.nw,.nw,.nw,.own 0,.own 0,.own 0,.nw,.nw] [0 <= (ai (xs.getD (((t*S.players+(q:Int)) % (n:Int)).toNat) 0) 1000000) / 9 /\ (0:Int)<3 /\ (ai (xs.getD (((t*S.players+(q:Int)) % (n:Int)).toNat) 0) 1000000) / 9 <= 9223372036854775807,0 <= ai (xs.getD (((t*S.players+(q:Int)) % (n:Int)).toNat) 0) 1000000 /\ (0:Int)<9 /\ ai (xs.getD (((t*S.players+(q:Int)) % (n:Int)).toNat) 0) 1000000 <= 9223372036854775807,aI ((((ai (xs.getD (((t*S.players+(q:Int)) % (n:Int)).toNat) 0) 1000000) / 3) % 3)-1),0 <= (ai (xs.getD (((t*S.players+(q:Int)) % (n:Int)).toNat) 0) 1000000) / 3 /\ (0:Int)<3 /\ (ai (xs.getD (((t*S.players+(q:Int)) % (n:Int)).toNat) 0) 1000000) / 3 <= 9223372036854775807,0 <= ai (xs.getD (((t*S.players+(q:Int)) % (n:Int)).toNat) 0) 1000000 /\ (0:Int)<3 /\ ai (xs.getD (((t*S.players+(q:Int)) % (n:Int)).toNat) 0) 1000000 <= 9223372036854775807,aI (((ai (xs.getD (((t*S.players+(q:Int)) % (n:Int)).toNat) 0) 1000000) % 3)-1),0 <= ai (xs.getD (((t*S.players+(q:Int)) % (n:Int)).toNat) 0) 1000000 /\ (0:Int)<3 /\ ai (xs.getD (((t*S.players+(q:Int)) % (n:Int)).toNat) 0) 1000000 <= 9223372036854775807] λ n8=>aam (((ai (xs.getD (((t*S.players+(q:Int)) % (n:Int)).toNat) 0) 1000000) / 9) % 3=0) 44 (λ h9=>?_) λ h9=>?_
   ·refine ah 13 [.nw,.nw,.own 0,.own 0,.own 0,.own 0] [0 <= (ai (xs.getD (((t*S.players+(q:Int)) % (n:Int)).toNat) 0) 1000000) / 27 /\ (0:Int)<4 /\ (ai (xs.getD (((t*S.players+(q:Int)) % (n:Int)).toNat) 0) 1000000) / 27 <= 9223372036854775807,0 <= ai (xs.getD (((t*S.players+(q:Int)) % (n:Int)).toNat) 0) 1000000 /\ (0:Int)<27 /\ ai (xs.getD (((t*S.players+(q:Int)) % (n:Int)).toNat) 0) 1000000 <= 9223372036854775807] λ VW=>?_;have V3:xV S.players xs t q=(⟨((ai (xs.getD (((t*S.players+(q:Int)) % (n:Int)).toNat) 0) 1000000) % 3)-1,(((ai (xs.getD (((t*S.players+(q:Int)) % (n:Int)).toNat) 0) 1000000) / 3) % 3)-1,((ai (xs.getD (((t*S.players+(q:Int)) % (n:Int)).toNat) 0) 1000000) / 27) % 4⟩:Inp):=by
     unfold xV;rw[show rowN S.players xs t q=ai (xs.getD (((t*S.players+(q:Int)) % (n:Int)).toNat) 0) 1000000 from by unfold rowN;rw[hl.len];rw[if_pos (by omega)]]
     first|rfl|(unfold Ac;simp only[if_pos h9])
    refine fG tE (rowL S.players xs t q) [(⟨((ai (xs.getD (((t*S.players+(q:Int)) % (n:Int)).toNat) 0) 1000000) % 3)-1,(((ai (xs.getD (((t*S.players+(q:Int)) % (n:Int)).toNat) 0) 1000000) / 3) % 3)-1,((ai (xs.getD (((t*S.players+(q:Int)) % (n:Int)).toNat) 0) 1000000) / 27) % 4⟩:Inp)] 0 0 (bV _ _ _ _).symm IT (by rw[bV];show q+1 <= 100000000;omega) ?_;rintro A11 YZ TO ⟨Ug,ad8⟩;refine ah 9 [.nw] [aI ((q:Int)+1)] λ _=>?_;have Zw:=ad8 YN;refine Th (q+1,A11,YZ,TO) [2] [0] ?_
    try dsimp only
    refine⟨⟨by omega,?_,Zw⟩,by omega⟩;rw[qU,V3];exact Ug
   ·refine ae 7 (aab 3) λ n16=>?_;have V3:xV S.players xs t q=(⟨((ai (xs.getD (((t*S.players+(q:Int)) % (n:Int)).toNat) 0) 1000000) % 3)-1,(((ai (xs.getD (((t*S.players+(q:Int)) % (n:Int)).toNat) 0) 1000000) / 3) % 3)-1,0⟩:Inp):=by
     unfold xV;rw[show rowN S.players xs t q=ai (xs.getD (((t*S.players+(q:Int)) % (n:Int)).toNat) 0) 1000000 from by unfold rowN;rw[hl.len];rw[if_pos (by omega)]]
     first|rfl|(unfold Ac;simp only[if_neg h9])
    refine fG tE (rowL S.players xs t q) [(⟨((ai (xs.getD (((t*S.players+(q:Int)) % (n:Int)).toNat) 0) 1000000) % 3)-1,(((ai (xs.getD (((t*S.players+(q:Int)) % (n:Int)).toNat) 0) 1000000) / 3) % 3)-1,0⟩:Inp)] 0 0 (bV _ _ _ _).symm IT (by rw[bV];show q+1 <= 100000000;omega) ?_;rintro A17 Zf XM ⟨UL,Wt⟩;refine ah 9 [.nw] [aI ((q:Int)+1)] λ _=>?_;have Zw:=Wt YN;refine Th (q+1,A17,Zf,XM) [2] [0] ?_
    try dsimp only
    refine⟨⟨by omega,?_,Zw⟩,by omega⟩;rw[qU,V3];exact UL
  ·refine ae 4 [] λ _=>ae 35 (ow 0 7) λ n22=>?_;have V3:xV S.players xs t q=(⟨(-1),(-1),0⟩:Inp):=by
    unfold xV;rw[show rowN S.players xs t q=0 from by unfold rowN;rw[hl.len];rw[if_neg (by omega)]];rfl
   refine fG tE (rowL S.players xs t q) [(⟨(-1),(-1),0⟩:Inp)] 0 0 (bV _ _ _ _).symm IT (by rw[bV];show q+1 <= 100000000;omega) ?_;rintro A23 c24 T25 ⟨ak7,akJ⟩;refine ah 9 [.nw] [aI ((q:Int)+1)] λ _=>?_;have Zw:=akJ YN;refine Th (q+1,A23,c24,T25) [2] [0] ?_
   try dsimp only
   refine⟨⟨by omega,?_,Zw⟩,by omega⟩;rw[qU,V3];exact ak7
 ·refine ae 12 [] λ _=>aaq [] [] [0] (v:=.slice A_ q c_) (H':=(ap [] [T_])) ?_;have ei:q=S.players.toNat:=by omega
  subst ei;exact⟨(A_,c_,T_),rfl,rfl,IT,YN⟩
theorem su(a:Addr)(n c:Nat)(xs:List Bod)(F:HL)(hl:SrcIn Tryz.prog mH F (some a) n xs)(hb:n <= 100000000):Sp Tryz.prog 113 #[.slice (some a) n c] [] F (λ u H'=>∃x:Option Addr × Nat × HL,H'=ap [] [x.2.2] /\ (u=.slice x.1 n x.2.1 /\ ClS mH 90 xs x.1 x.2.1 x.2.2)):=by
 refine aav Tryz.func113 rfl mn (A:=[]) (Ts:=[]) rfl λ w0=>?_;refine ae 19 [] λ n1=>aap<|fJ (A:=(some ⟨(n1+0),0,none⟩)) (B:=(some a)) (c':=c) Cp xs 0 (λ a_ e_=>by cases e_;rfl) (m:=n) (tx:=23) hl.1.1.symm (by rw[hl.1.1];exact hb) (λ e_ he X w hR=>hl.2 c he X w hR) ?_;rintro A2 c3 T4 Ty;refine ae 3 [] λ _=>aaq [] [] [0] (v:=.slice A2 xs.length c3) (H':=(ap [] [T4])) ?_;exact⟨(A2,c3,T4),rfl,by rw[hl.1.1],_,Ty⟩
theorem sw(c:Nat)(F:HL):Sp Tryz.prog 113 #[.slice none 0 c] [] F (λ u H'=>∃x:Option Addr × Nat × HL,H'=ap [] [x.2.2] /\ (u=.slice x.1 0 x.2.1 /\ ClS mH 90 [] x.1 x.2.1 x.2.2)):=by
 refine aav Tryz.func113 rfl mn (A:=[]) (Ts:=[]) rfl λ w0=>?_;refine ae 18 [] λ _=>aaq [] [] [] (v:=.slice none 0 0) (H':=(ap [] [])) ?_;exact⟨(none,0,[]),rfl,rfl,.nil _ _ _⟩
theorem tR(A:Option Addr)(n c:Nat)(xs:List Bod)(F:HL)(hl:SrcIn Tryz.prog mH F A n xs)(hb:n <= 100000000):Sp Tryz.prog 113 #[.slice A n c] (ap [] []) F (λ u H'=>∃x:Option Addr × Nat × HL,H'=ap [] [x.2.2] /\ (u=.slice x.1 n x.2.1 /\ ClS mH 90 xs x.1 x.2.1 x.2.2)):=by
 cases A with
 | some a=>exact su a n c xs F hl hb
 | none =>
  obtain rfl:n=0:=hl.1.2 rfl;obtain rfl:xs=[]:=List.eq_nil_of_length_eq_zero hl.1.1;exact sw c F
theorem tS(a:Addr)(n c:Nat)(xs:List V2)(F:HL)(hl:SrcIn Tryz.prog oC F (some a) n xs)(hb:n <= 100000000):Sp Tryz.prog 114 #[.slice (some a) n c] [] F (λ u H'=>∃x:Option Addr × Nat × HL,H'=ap [] [x.2.2] /\ (u=.slice x.1 n x.2.1 /\ ClS oC 29 xs x.1 x.2.1 x.2.2)):=by
 refine aav Tryz.func114 rfl mn (A:=[]) (Ts:=[]) rfl λ w0=>?_;refine ae 19 [] λ n1=>aap<|fJ (A:=(some ⟨(n1+0),0,none⟩)) (B:=(some a)) (c':=c) JC xs 0 (λ a_ e_=>by cases e_;rfl) (m:=n) (tx:=83) hl.1.1.symm (by rw[hl.1.1];exact hb) (λ e_ he X w hR=>hl.2 c he X w hR) ?_;rintro A2 c3 T4 Ty;refine ae 3 [] λ _=>aaq [] [] [0] (v:=.slice A2 xs.length c3) (H':=(ap [] [T4])) ?_;exact⟨(A2,c3,T4),rfl,by rw[hl.1.1],_,Ty⟩
theorem tT(c:Nat)(F:HL):Sp Tryz.prog 114 #[.slice none 0 c] [] F (λ u H'=>∃x:Option Addr × Nat × HL,H'=ap [] [x.2.2] /\ (u=.slice x.1 0 x.2.1 /\ ClS oC 29 [] x.1 x.2.1 x.2.2)):=by
 refine aav Tryz.func114 rfl mn (A:=[]) (Ts:=[]) rfl λ w0=>?_;refine ae 18 [] λ _=>aaq [] [] [] (v:=.slice none 0 0) (H':=(ap [] [])) ?_;exact⟨(none,0,[]),rfl,rfl,.nil _ _ _⟩
theorem vt(A:Option Addr)(n c:Nat)(xs:List V2)(F:HL)(hl:SrcIn Tryz.prog oC F A n xs)(hb:n <= 100000000):Sp Tryz.prog 114 #[.slice A n c] (ap [] []) F (λ u H'=>∃x:Option Addr × Nat × HL,H'=ap [] [x.2.2] /\ (u=.slice x.1 n x.2.1 /\ ClS oC 29 xs x.1 x.2.1 x.2.2)):=by
 cases A with
 | some a=>exact tS a n c xs F hl hb
 | none =>
  obtain rfl:n=0:=hl.1.2 rfl;obtain rfl:xs=[]:=List.eq_nil_of_length_eq_zero hl.1.1;exact tT c F
theorem tU(a:Addr)(n c:Nat)(xs:List Bx)(F:HL)(hl:SrcIn Tryz.prog z7 F (some a) n xs)(hb:n <= 100000000):Sp Tryz.prog 115 #[.slice (some a) n c] [] F (λ u H'=>∃x:Option Addr × Nat × HL,H'=ap [] [x.2.2] /\ (u=.slice x.1 n x.2.1 /\ ClS z7 25 xs x.1 x.2.1 x.2.2)):=by
 refine aav Tryz.func115 rfl mn (A:=[]) (Ts:=[]) rfl λ w0=>?_;refine ae 19 [] λ n1=>aap<|fJ (A:=(some ⟨(n1+0),0,none⟩)) (B:=(some a)) (c':=c) N5 xs 0 (λ a_ e_=>by cases e_;rfl) (m:=n) (tx:=26) hl.1.1.symm (by rw[hl.1.1];exact hb) (λ e_ he X w hR=>hl.2 c he X w hR) ?_;rintro A2 c3 T4 Ty;refine ae 3 [] λ _=>aaq [] [] [0] (v:=.slice A2 xs.length c3) (H':=(ap [] [T4])) ?_;exact⟨(A2,c3,T4),rfl,by rw[hl.1.1],_,Ty⟩
theorem tV(c:Nat)(F:HL):Sp Tryz.prog 115 #[.slice none 0 c] [] F (λ u H'=>∃x:Option Addr × Nat × HL,H'=ap [] [x.2.2] /\ (u=.slice x.1 0 x.2.1 /\ ClS z7 25 [] x.1 x.2.1 x.2.2)):=by
 refine aav Tryz.func115 rfl mn (A:=[]) (Ts:=[]) rfl λ w0=>?_;refine ae 18 [] λ _=>aaq [] [] [] (v:=.slice none 0 0) (H':=(ap [] [])) ?_;exact⟨(none,0,[]),rfl,rfl,.nil _ _ _⟩
theorem vu(A:Option Addr)(n c:Nat)(xs:List Bx)(F:HL)(hl:SrcIn Tryz.prog z7 F A n xs)(hb:n <= 100000000):Sp Tryz.prog 115 #[.slice A n c] (ap [] []) F (λ u H'=>∃x:Option Addr × Nat × HL,H'=ap [] [x.2.2] /\ (u=.slice x.1 n x.2.1 /\ ClS z7 25 xs x.1 x.2.1 x.2.2)):=by
 cases A with
 | some a=>exact tU a n c xs F hl hb
 | none =>
  obtain rfl:n=0:=hl.1.2 rfl;obtain rfl:xs=[]:=List.eq_nil_of_length_eq_zero hl.1.1;exact tV c F
theorem sx(a:Addr)(n c:Nat)(xs:List Dr)(F:HL)(hl:SrcIn Tryz.prog pf F (some a) n xs)(hb:n <= 100000000):Sp Tryz.prog 116 #[.slice (some a) n c] [] F (λ u H'=>∃x:Option Addr × Nat × HL,H'=ap [] [x.2.2] /\ (u=.slice x.1 n x.2.1 /\ ClS pf 81 xs x.1 x.2.1 x.2.2)):=by
 refine aav Tryz.func116 rfl mn (A:=[]) (Ts:=[]) rfl λ w0=>?_;refine ae 19 [] λ n1=>aap<|fJ (A:=(some ⟨(n1+0),0,none⟩)) (B:=(some a)) (c':=c) N6 xs 0 (λ a_ e_=>by cases e_;rfl) (m:=n) (tx:=27) hl.1.1.symm (by rw[hl.1.1];exact hb) (λ e_ he X w hR=>hl.2 c he X w hR) ?_;rintro A2 c3 T4 Ty;refine ae 3 [] λ _=>aaq [] [] [0] (v:=.slice A2 xs.length c3) (H':=(ap [] [T4])) ?_;exact⟨(A2,c3,T4),rfl,by rw[hl.1.1],_,Ty⟩
theorem sy(c:Nat)(F:HL):Sp Tryz.prog 116 #[.slice none 0 c] [] F (λ u H'=>∃x:Option Addr × Nat × HL,H'=ap [] [x.2.2] /\ (u=.slice x.1 0 x.2.1 /\ ClS pf 81 [] x.1 x.2.1 x.2.2)):=by
 refine aav Tryz.func116 rfl mn (A:=[]) (Ts:=[]) rfl λ w0=>?_;refine ae 18 [] λ _=>aaq [] [] [] (v:=.slice none 0 0) (H':=(ap [] [])) ?_;exact⟨(none,0,[]),rfl,rfl,.nil _ _ _⟩
theorem tW(A:Option Addr)(n c:Nat)(xs:List Dr)(F:HL)(hl:SrcIn Tryz.prog pf F A n xs)(hb:n <= 100000000):Sp Tryz.prog 116 #[.slice A n c] (ap [] []) F (λ u H'=>∃x:Option Addr × Nat × HL,H'=ap [] [x.2.2] /\ (u=.slice x.1 n x.2.1 /\ ClS pf 81 xs x.1 x.2.1 x.2.2)):=by
 cases A with
 | some a=>exact sx a n c xs F hl hb
 | none =>
  obtain rfl:n=0:=hl.1.2 rfl;obtain rfl:xs=[]:=List.eq_nil_of_length_eq_zero hl.1.1;exact sy c F
theorem tX(a:Addr)(n c:Nat)(xs:List Ins)(F:HL)(hl:SrcIn Tryz.prog mI F (some a) n xs)(hb:n <= 100000000):Sp Tryz.prog 130 #[.slice (some a) n c] [] F (λ u H'=>∃x:Option Addr × Nat × HL,H'=ap [] [x.2.2] /\ (u=.slice x.1 n x.2.1 /\ ClS mI 231 xs x.1 x.2.1 x.2.2)):=by
 refine aav Tryz.func130 rfl mn (A:=[]) (Ts:=[]) rfl λ w0=>?_;refine ae 19 [] λ n1=>aap<|fJ (A:=(some ⟨(n1+0),0,none⟩)) (B:=(some a)) (c':=c) IE xs 0 (λ a_ e_=>by cases e_;rfl) (m:=n) (tx:=139) hl.1.1.symm (by rw[hl.1.1];exact hb) (λ e_ he X w hR=>hl.2 c he X w hR) ?_;rintro A2 c3 T4 Ty;refine ae 3 [] λ _=>aaq [] [] [0] (v:=.slice A2 xs.length c3) (H':=(ap [] [T4])) ?_;exact⟨(A2,c3,T4),rfl,by rw[hl.1.1],_,Ty⟩
theorem tY(c:Nat)(F:HL):Sp Tryz.prog 130 #[.slice none 0 c] [] F (λ u H'=>∃x:Option Addr × Nat × HL,H'=ap [] [x.2.2] /\ (u=.slice x.1 0 x.2.1 /\ ClS mI 231 [] x.1 x.2.1 x.2.2)):=by
 refine aav Tryz.func130 rfl mn (A:=[]) (Ts:=[]) rfl λ w0=>?_;refine ae 18 [] λ _=>aaq [] [] [] (v:=.slice none 0 0) (H':=(ap [] [])) ?_;exact⟨(none,0,[]),rfl,rfl,.nil _ _ _⟩
theorem oK(A:Option Addr)(n c:Nat)(xs:List Ins)(F:HL)(hl:SrcIn Tryz.prog mI F A n xs)(hb:n <= 100000000):Sp Tryz.prog 130 #[.slice A n c] (ap [] []) F (λ u H'=>∃x:Option Addr × Nat × HL,H'=ap [] [x.2.2] /\ (u=.slice x.1 n x.2.1 /\ ClS mI 231 xs x.1 x.2.1 x.2.2)):=by
 cases A with
 | some a=>exact tX a n c xs F hl hb
 | none =>
  obtain rfl:n=0:=hl.1.2 rfl;obtain rfl:xs=[]:=List.eq_nil_of_length_eq_zero hl.1.1;exact tY c F
theorem qV(a:Addr)(n c:Nat)(xs:List Inp)(F:HL)(hl:SrcIn Tryz.prog cS F (some a) n xs)(hb:n <= 100000000):Sp Tryz.prog 46 #[.slice (some a) n c] [] F (λ u H'=>∃x:Option Addr × Nat × HL,H'=ap [] [x.2.2] /\ (u=.slice x.1 n x.2.1 /\ ClS cS 40 xs x.1 x.2.1 x.2.2)):=by
 refine aav Tryz.func46 rfl mn (A:=[]) (Ts:=[]) rfl λ w0=>?_;refine ae 19 [] λ n1=>aap<|fJ (A:=(some ⟨(n1+0),0,none⟩)) (B:=(some a)) (c':=c) tE xs 0 (λ a_ e_=>by cases e_;rfl) (m:=n) (tx:=38) hl.1.1.symm (by rw[hl.1.1];exact hb) (λ e_ he X w hR=>hl.2 c he X w hR) ?_;rintro A2 c3 T4 Ty;refine ae 3 [] λ _=>aaq [] [] [0] (v:=.slice A2 xs.length c3) (H':=(ap [] [T4])) ?_;exact⟨(A2,c3,T4),rfl,by rw[hl.1.1],_,Ty⟩
theorem qW(c:Nat)(F:HL):Sp Tryz.prog 46 #[.slice none 0 c] [] F (λ u H'=>∃x:Option Addr × Nat × HL,H'=ap [] [x.2.2] /\ (u=.slice x.1 0 x.2.1 /\ ClS cS 40 [] x.1 x.2.1 x.2.2)):=by
 refine aav Tryz.func46 rfl mn (A:=[]) (Ts:=[]) rfl λ w0=>?_;refine ae 18 [] λ _=>aaq [] [] [] (v:=.slice none 0 0) (H':=(ap [] [])) ?_;exact⟨(none,0,[]),rfl,rfl,.nil _ _ _⟩
theorem sA(A:Option Addr)(n c:Nat)(xs:List Inp)(F:HL)(hl:SrcIn Tryz.prog cS F A n xs)(hb:n <= 100000000):Sp Tryz.prog 46 #[.slice A n c] (ap [] []) F (λ u H'=>∃x:Option Addr × Nat × HL,H'=ap [] [x.2.2] /\ (u=.slice x.1 n x.2.1 /\ ClS cS 40 xs x.1 x.2.1 x.2.2)):=by
 cases A with
 | some a=>exact qV a n c xs F hl hb
 | none =>
  obtain rfl:n=0:=hl.1.2 rfl;obtain rfl:xs=[]:=List.eq_nil_of_length_eq_zero hl.1.1;exact qW c F
def fC(lo hi:Int)(ns:List Int):Prop:=∀k,k<ns.length -> lo <= ns.getD k 0 /\ ns.getD k 0 <= hi
instance (lo hi:Int) (ns:List Int):Decidable (fC lo hi ns):=inferInstanceAs (Decidable (∀k,k<ns.length -> _))
theorem Ad(lo hi:Int):fC lo hi []:=λ k hk=>absurd hk (Nat.not_lt_zero _)
theorem wB{lo hi x:Int}{ns:List Int}:fC lo hi (x::ns)↔(lo <= x /\ x <= hi) /\ fC lo hi ns:=by
 constructor
 ·intro h;exact⟨h 0 (Nat.succ_pos _),λ k hk=>h (k+1) (Nat.succ_lt_succ hk)⟩
 ·rintro⟨h1,h2⟩ k hk;cases k with
  | zero=>exact h1
  | succ k=>exact h2 k (Nat.lt_of_succ_lt_succ hk)
theorem fq(lo hi:Int)(ns:List Int)(q:Nat)(F:HL)(hq:(q,.rows 1 ns.length (aB ns) 3 (0,0))∈F)(hn:ns.length <= 1000000):Sp Tryz.prog 142 #[vI lo,vI hi,vS q 0 ns.length ns.length] [] F (λ u H'=>u=.bool (decide (fC lo hi ns)) /\ H'=[]):=by
 refine aav Tryz.func142 rfl (mc hq mn) (A:=[]) (Ts:=[]) rfl λ w0=>?_;refine ae 14 [] λ _=>aao (σ:=Nat) (λ k=>⟨[(0,vI lo),(1,vI hi),(9,vS q 0 ns.length ns.length),(10,vI (ns.length:Int)),(11,vI (k:Int))],[],[],k <= ns.length /\ ∀t,t<k -> lo <= ns.getD t 0 /\ ns.getD t 0 <= hi,ns.length-k⟩) 0 [] [] (⟨Nat.zero_le _,λ t ht=>absurd ht (Nat.not_lt_zero _)⟩) ?_;rintro k ⟨hkl,hwk⟩ Tw;refine ae 6 [] λ _=>aam ((k:Int)<(ns.length:Int)) 12 (λ h3=>?_) λ h3=>?_
 ·refine ah 18 [.ix k,.rorow 0 k 0] [(0+k*1)=k*1+0 /\ k<ns.length,(k:Int)=((k:Nat):Int) /\ k<ns.length] λ _=>aam (ns.getD k 0<lo) 18 (λ h4=>?_) λ h4=>?_
  ·refine ae 12 [] λ _=>aaq [] [] [] (v:=.bool false) (H':=[]) ?_;exact⟨by rw[decide_eq_false (show ¬ fC lo hi ns from λ h_=>by have:=h_ k (by omega);omega)],rfl⟩
  ·refine ae 6 [] λ _=>aam (ns.getD k 0>hi) 22 (λ h5=>?_) λ h5=>?_
   ·refine ae 6 [] λ _=>aaq [] [] [] (v:=.bool false) (H':=[]) ?_;exact⟨by rw[decide_eq_false (show ¬ fC lo hi ns from λ h_=>by have:=h_ k (by omega);omega)],rfl⟩
   ·refine ah 8 [.nw] [aI ((k:Int)+1)] λ _=>?_;refine Tw (k+1) [] [] ?_
    try dsimp only
    refine⟨⟨by omega,λ t ht=>?_⟩,by omega⟩;rcases Nat.lt_or_ge t k with h_|h_
    ·exact hwk t h_
    ·obtain rfl:t=k:=by omega
     exact⟨by omega,by omega⟩
 ·refine ae 11 [] λ _=>aaq [] [] [] (v:=.bool true) (H':=[]) ?_;exact⟨by rw[decide_eq_true (show fC lo hi ns from λ t ht=>hwk t (by omega))],rfl⟩
def iV(b:Bx):Prop:=(b.x0 <= b.x1 /\ b.y0 <= b.y1) /\ fC (-1048576) 1048576 [b.x0,b.y0,b.x1,b.y1]
instance (b:Bx):Decidable (iV b):=inferInstanceAs (Decidable (_ /\ _))
def gV(b:Bod)(x:Bx):Prop:=fC 0 4096 [b.mot.inv] /\ fC (-16384) 16384 [b.mot.vx,b.mot.vy] /\ fC x.x0 x.x1 [b.mot.px] /\ fC x.y0 x.y1 [b.mot.py] /\ fC (-2147483647) 2147483647 [b.a,b.b]
instance (b:Bod) (x:Bx):Decidable (gV b x):=inferInstanceAs (Decidable (_ /\ _))
def lw(S:Setup):Prop:=fC 1 8 [S.players] /\ fC S.players 24 [(S.nb:Int)] /\ fC 0 4194304 [S.fog] /\ fC (-16384) 16384 [S.g.x,S.g.y] /\ fC 0 16384 [S.push] /\ fC 0 1024 [S.drag,S.rest] /\ fC 1 4 [S.rounds] /\ fC 0 1000 [S.fuel]
instance (S:Setup):Decidable (lw S):=inferInstanceAs (Decidable (_ /\ _))
theorem tZ(b:Bx)  (F:HL):Sp Tryz.prog 110 #[.agg #[vI b.x0,vI b.y0,vI b.x1,vI b.y1]] [] F (λ u H'=>u=.bool (decide (iV b)) /\ H'=[]):=by
 refine aav Tryz.func110 rfl mn (A:=[]) (Ts:=[]) rfl λ w0=>?_;refine ae 14 (aab 2) λ n1=>aam (b.x0 <= b.x1) 8 (λ h2=>?_) λ h2=>?_
 ·refine ae 7 (aab 2) λ _=>aam (b.y0 <= b.y1) 15 (λ h3=>?_) λ h3=>?_
  ·refine ae 9 (aab 4) λ n4=>aak 0 (.rows 1 4 (aB [b.x0,b.y0,b.x1,b.y1]) 3 (0,0))<|aai (fq (-1048576) 1048576 [b.x0,b.y0,b.x1,b.y1] (n4+0) _ (az 0) (Nat.le_of_ble_eq_true rfl))<|ae 4 [] λ _=>aaq [] [] [] (v:=.bool (decide (fC (-1048576) 1048576 [b.x0,b.y0,b.x1,b.y1]))) (H':=[]) ?_;exact⟨by simp[iV, *],rfl⟩
  ·refine ae 14 [] λ _=>aaq [] [] [] (v:=.bool false) (H':=[]) ?_;exact⟨by simp[iV, *],rfl⟩
 ·refine ae 21 [] λ _=>aaq [] [] [] (v:=.bool false) (H':=[]) ?_;exact⟨by simp[iV, *],rfl⟩
theorem GE(b:Bod)(x:Bx)(F:HL):Sp Tryz.prog 112 #[.agg #[vI b.sh.r,.slice b.sh.A b.sh.poly.length b.sh.cap,vI b.mot.px,vI b.mot.py,vI b.mot.vx,vI b.mot.vy,vI b.mot.inv,vI b.a,vI b.b],.agg #[vI x.x0,vI x.y0,vI x.x1,vI x.y1]] [] F (λ u H'=>u=.bool (decide (gV b x)) /\ H'=[]):=by
 refine aav Tryz.func112 rfl mn (A:=[]) (Ts:=[]) rfl λ w0=>?_;refine ae 20 (ow 1 5++ow 0 6) λ n1=>aak 0 (.rows 1 1 (aB [b.mot.inv]) 3 (0,0))<|aai (fq 0 4096 [b.mot.inv] (n1+3) _ (az 0) (Nat.le_of_ble_eq_true rfl))<|ae 1 [] λ _=>aam (fC 0 4096 [b.mot.inv]) 12 (λ h2=>?_) λ h2=>?_
 ·refine ae 7 [.own 1,.own 1] λ n3=>aak 0 (.rows 1 2 (aB [b.mot.vx,b.mot.vy]) 3 (0,0))<|aai (fq (-16384) 16384 [b.mot.vx,b.mot.vy] (n3+0) _ (az 0) (Nat.le_of_ble_eq_true rfl))<|ae 2 [] λ _=>aam (fC (-16384) 16384 [b.mot.vx,b.mot.vy]) 22 (λ h4=>?_) λ h4=>?_
  ·refine ae 8 [.own 3,.own 3,.own 2] λ n5=>aak 0 (.rows 1 1 (aB [b.mot.px]) 3 (0,0))<|aai (fq x.x0 x.x1 [b.mot.px] (n5+0) _ (az 0) (Nat.le_of_ble_eq_true rfl))<|ae 2 [] λ _=>aam (fC x.x0 x.x1 [b.mot.px]) 33 (λ h6=>?_) λ h6=>?_
   ·refine ae 8 [.own 4,.own 4,.own 3] λ n7=>aak 0 (.rows 1 1 (aB [b.mot.py]) 3 (0,0))<|aai (fq x.y0 x.y1 [b.mot.py] (n7+0) _ (az 0) (Nat.le_of_ble_eq_true rfl))<|ae 2 [] λ _=>aam (fC x.y0 x.y1 [b.mot.py]) 44 (λ h8=>?_) λ h8=>?_
    ·refine ae 5 [.own 6,.own 6] λ n9=>aak 0 (.rows 1 2 (aB [b.a,b.b]) 3 (0,0))<|aai (fq (-2147483647) 2147483647 [b.a,b.b] (n9+0) _ (az 0) (Nat.le_of_ble_eq_true rfl))<|ae 4 [] λ _=>aaq [] [] [] (v:=.bool (decide (fC (-2147483647) 2147483647 [b.a,b.b]))) (H':=[]) ?_;exact⟨by simp[gV, *],rfl⟩
    ·refine ae 10 [] λ _=>aaq [] [] [] (v:=.bool false) (H':=[]) ?_;exact⟨by simp[gV, *],rfl⟩
   ·refine ae 21 [] λ _=>aaq [] [] [] (v:=.bool false) (H':=[]) ?_;exact⟨by simp[gV, *],rfl⟩
  ·refine ae 32 [] λ _=>aaq [] [] [] (v:=.bool false) (H':=[]) ?_;exact⟨by simp[gV, *],rfl⟩
 ·refine ae 42 [] λ _=>aaq [] [] [] (v:=.bool false) (H':=[]) ?_;exact⟨by simp[gV, *],rfl⟩
theorem JF(S:Setup)(F:HL):Sp Tryz.prog 109 #[(Setup.v S)] [] F (λ u H'=>u=.bool (decide (lw S)) /\ H'=[]):=by
 refine aav Tryz.func109 rfl mn (A:=[]) (Ts:=[]) rfl λ w0=>?_;refine ae 11 [.own 0] λ n1=>aak 0 (.rows 1 1 (aB [S.players]) 3 (0,0))<|aai (fq 1 8 [S.players] (n1+1) _ (az 0) (Nat.le_of_ble_eq_true rfl))<|ae 1 [] λ _=>aam (fC 1 8 [S.players]) 7 (λ h2=>?_) λ h2=>?_
 ·refine ae 6 [.own 1,.own 1] λ n3=>aak 0 (.rows 1 1 (aB [(S.nb:Int)]) 3 (0,0))<|aai (fq S.players 24 [(S.nb:Int)] (n3+0) _ (az 0) (Nat.le_of_ble_eq_true rfl))<|ae 2 [] λ _=>aam (fC S.players 24 [(S.nb:Int)]) 16 (λ h4=>?_) λ h4=>?_
  ·refine ae 3 [.own 2] λ n5=>aak 0 (.rows 1 1 (aB [S.fog]) 3 (0,0))<|aai (fq 0 4194304 [S.fog] (n5+0) _ (az 0) (Nat.le_of_ble_eq_true rfl))<|ae 2 [] λ _=>aam (fC 0 4194304 [S.fog]) 22 (λ h6=>?_) λ h6=>?_
   ·refine ae 7 [.own 3,.own 3] λ n7=>aak 0 (.rows 1 2 (aB [S.g.x,S.g.y]) 3 (0,0))<|aai (fq (-16384) 16384 [S.g.x,S.g.y] (n7+0) _ (az 0) (Nat.le_of_ble_eq_true rfl))<|ae 2 [] λ _=>aam (fC (-16384) 16384 [S.g.x,S.g.y]) 32 (λ h8=>?_) λ h8=>?_
    ·refine ae 3 [.own 4] λ n9=>aak 0 (.rows 1 1 (aB [S.push]) 3 (0,0))<|aai (fq 0 16384 [S.push] (n9+0) _ (az 0) (Nat.le_of_ble_eq_true rfl))<|ae 2 [] λ _=>aam (fC 0 16384 [S.push]) 38 (λ VU=>?_) λ VU=>?_
     ·refine ae 5 [.own 5,.own 5] λ n11=>aak 0 (.rows 1 2 (aB [S.drag,S.rest]) 3 (0,0))<|aai (fq 0 1024 [S.drag,S.rest] (n11+0) _ (az 0) (Nat.le_of_ble_eq_true rfl))<|ae 2 [] λ _=>aam (fC 0 1024 [S.drag,S.rest]) 46 (λ Uq=>?_) λ Uq=>?_
      ·refine ae 3 [.own 6] λ n13=>aak 0 (.rows 1 1 (aB [S.rounds]) 3 (0,0))<|aai (fq 1 4 [S.rounds] (n13+0) _ (az 0) (Nat.le_of_ble_eq_true rfl))<|ae 2 [] λ _=>aam (fC 1 4 [S.rounds]) 52 (λ VT=>?_) λ VT=>?_
       ·refine ae 3 [.own 7] λ n15=>aak 0 (.rows 1 1 (aB [S.fuel]) 3 (0,0))<|aai (fq 0 1000 [S.fuel] (n15+0) _ (az 0) (Nat.le_of_ble_eq_true rfl))<|ae 4 [] λ _=>aaq [] [] [] (v:=.bool (decide (fC 0 1000 [S.fuel]))) (H':=[]) ?_;exact⟨by simp[lw, *],rfl⟩
       ·refine ae 8 [] λ _=>aaq [] [] [] (v:=.bool false) (H':=[]) ?_;exact⟨by simp[lw, *],rfl⟩
      ·refine ae 14 [] λ _=>aaq [] [] [] (v:=.bool false) (H':=[]) ?_;exact⟨by simp[lw, *],rfl⟩
     ·refine ae 22 [] λ _=>aaq [] [] [] (v:=.bool false) (H':=[]) ?_;exact⟨by simp[lw, *],rfl⟩
    ·refine ae 28 [] λ _=>aaq [] [] [] (v:=.bool false) (H':=[]) ?_;exact⟨by simp[lw, *],rfl⟩
   ·refine ae 38 [] λ _=>aaq [] [] [] (v:=.bool false) (H':=[]) ?_;exact⟨by simp[lw, *],rfl⟩
  ·refine ae 44 [] λ _=>aaq [] [] [] (v:=.bool false) (H':=[]) ?_;exact⟨by simp[lw, *],rfl⟩
 ·refine ae 53 [] λ _=>aaq [] [] [] (v:=.bool false) (H':=[]) ?_;exact⟨by simp[lw, *],rfl⟩
def t1(n:Nat)(d:Dr):Prop:=fC 0 ((n:Int)-1) [d.a,d.b] /\ ¬ d.a=d.b
instance (n:Nat) (d:Dr):Decidable (t1 n d):=inferInstanceAs (Decidable (_ /\ _))
def oL(S:Setup)(rs:List Bx)(ds:List Dr):Prop:=((S.rn:Int) <= 8 /\ (S.dn:Int) <= 16) /\ (∀k,k<S.rn -> iV (rs.getD k z7.dflt)) /\ ∀k,k<S.dn -> t1 S.rn (ds.getD k pf.dflt)
instance (S:Setup) (rs:List Bx) (ds:List Dr):Decidable (oL S rs ds):=inferInstanceAs (Decidable (_ /\ _ /\ _))
theorem JG(S:Setup)(rs:List Bx)(ds:List Dr)(F:HL)(hM:MapIn F S rs ds):Sp Tryz.prog 111 #[(Setup.v S)] [] F (λ u H'=>u=.bool (decide (oL S rs ds)) /\ H'=[]):=by
 refine aav Tryz.func111 rfl mn (A:=[]) (Ts:=[]) rfl λ w0=>?_;refine ae 14 [.own 0] λ n1=>aam ((S.rn:Int)>8) 11 (λ h2=>?_) λ h2=>?_
 ·refine ae 13 [] λ _=>aaq [] [] [] (v:=.bool false) (H':=[]) ?_;exact⟨by rw[decide_eq_false (show ¬ oL S rs ds from λ h_=>by have:=h_.1;omega)],rfl⟩
 ·refine ae 7 [.own 0] λ _=>aam ((S.dn:Int)>16) 16 (λ h3=>?_) λ h3=>?_
  ·refine ae 6 [] λ _=>aaq [] [] [] (v:=.bool false) (H':=[]) ?_;exact⟨by rw[decide_eq_false (show ¬ oL S rs ds from λ h_=>by have:=h_.1;omega)],rfl⟩
  ·refine ae 13 [.own 0] λ _=>aao (σ:=Nat) (λ k=>⟨[(1,vP (n1+0) 0),(18,.slice S.rA S.rn S.rc),(19,vI (S.rn:Int)),(20,vI (k:Int))],[((n1+0),.lit (Setup.l S) 31 (0,0))],[],k <= S.rn /\ ∀t,t<k -> iV (rs.getD t z7.dflt),S.rn-k⟩) 0 [0] [] (⟨Nat.zero_le _,λ t ht=>absurd ht (Nat.not_lt_zero _)⟩) ?_;rintro k ⟨hkl,ZP⟩ mt5;refine ae 6 [] λ _=>aam ((k:Int)<(S.rn:Int)) 21 (λ h6=>?_) λ h6=>?_
   ·refine ae 7 [] λ _=>?_;obtain⟨qx7,Xz,Nx7,fx7,atk,aiE,alf,arN,alZ⟩:=hM.rooms.at (k:=k) (by omega);refine aC 18 (congrArg (λ v_=>(.slice v_ S.rn S.rc:Value)) aiE)<|aar (λ _=>(mc alf mn))<|ah 2 [.ix k,.rorow 0 (Xz+k) 0,.rorow 0 (Xz+k) 1,.rorow 0 (Xz+k) 2,.rorow 0 (Xz+k) 3] [((Xz*4+k*4)+3)=(Xz+k)*4+3 /\ (Xz+k)<Nx7,((Xz*4+k*4)+2)=(Xz+k)*4+2 /\ (Xz+k)<Nx7,((Xz*4+k*4)+1)=(Xz+k)*4+1 /\ (Xz+k)<Nx7,(Xz*4+k*4)=(Xz+k)*4+0 /\ (Xz+k)<Nx7,(k:Int)=((k:Nat):Int) /\ k<S.rn] λ _=>aC 23 (congrArg (λ v_=>(.agg #[vI v_.x0,vI v_.y0,vI v_.x1,vI v_.y1]:Value)) alZ)<|ae 7 (ow 0 8) λ n8=>aai (tZ (rs.getD k z7.dflt)  _)<|ae 3 [] λ _=>aan (iV (rs.getD k z7.dflt)) 26 (λ h9=>?_) λ h9=>?_
    ·refine ah 8 [.nw] [aI ((k:Int)+1)] λ _=>aC 18 (congrArg (λ v_=>(.slice v_ S.rn S.rc:Value)) aiE.symm) ?_;refine mt5 (k+1) [1] [] ?_
     try dsimp only
     refine⟨⟨by omega,λ t ht=>?_⟩,by omega⟩;rcases Nat.lt_or_ge t k with h_|h_
     ·exact ZP t h_
     ·obtain rfl:t=k:=by omega
      exact h9
    ·refine ae 6 [] λ _=>aaq [] [] [] (v:=.bool false) (H':=[]) ?_;exact⟨by rw[decide_eq_false (show ¬ oL S rs ds from λ h_=>h9 (h_.2.1 k (by omega)))],rfl⟩
   ·refine ae 16 [.own 0] λ _=>aao (σ:=Nat) (λ j=>⟨[(1,vP (n1+0) 0),(29,.slice S.dA S.dn S.dc),(30,vI (S.dn:Int)),(31,vI (j:Int))],[((n1+0),.lit (Setup.l S) 31 (0,0))],[],j <= S.dn /\ ∀t,t<j -> t1 S.rn (ds.getD t pf.dflt),S.dn-j⟩) 0 [0] [] (⟨Nat.zero_le _,λ t ht=>absurd ht (Nat.not_lt_zero _)⟩) ?_;rintro j ⟨XF,hd1⟩ adR;refine ae 6 [] λ _=>aam ((j:Int)<(S.dn:Int)) 32 (λ Uq=>?_) λ Uq=>?_
    ·refine ae 7 [] λ _=>?_;obtain⟨aqF,WV,ai9,atp,apV,adE,ahi,aoW,ahO⟩:=hM.doors.at (k:=j) (by omega);refine aC 29 (congrArg (λ v_=>(.slice v_ S.dn S.dc:Value)) adE)<|aar (λ _=>(mc ahi mn))<|ah 2 [.ix j,.rorow 0 (WV+j) 0,.rorow 0 (WV+j) 1] [((WV*2+j*2)+1)=(WV+j)*2+1 /\ (WV+j)<ai9,(WV*2+j*2)=(WV+j)*2+0 /\ (WV+j)<ai9,(j:Int)=((j:Nat):Int) /\ j<S.dn] λ _=>aC 34 (congrArg (λ v_=>(.agg #[vI v_.a,vI v_.b]:Value)) ahO)<|ah 15 [.own 0,.own 0,.own 1,.nw,.own 0,.own 0] [aI ((S.rn:Int)-1)] λ n14=>aak 0 (.rows 1 2 (aB [(ds.getD j pf.dflt).a,(ds.getD j pf.dflt).b]) 3 (0,0))<|aai (fq 0 ((S.rn:Int)-1) [(ds.getD j pf.dflt).a,(ds.getD j pf.dflt).b] (n14+1) _ (az 0) (Nat.le_of_ble_eq_true rfl))<|ae 2 [] λ _=>aan (fC 0 ((S.rn:Int)-1) [(ds.getD j pf.dflt).a,(ds.getD j pf.dflt).b]) 46 (λ YF=>?_) λ YF=>?_
     ·refine ae 8 [.own 1,.own 1] λ _=>aam ((ds.getD j pf.dflt).a=(ds.getD j pf.dflt).b) 52 (λ Uw=>?_) λ Uw=>?_
      ·refine ae 6 [] λ _=>aaq [] [] [] (v:=.bool false) (H':=[]) ?_;exact⟨by rw[decide_eq_false (show ¬ oL S rs ds from λ h_=>(h_.2.2 j (by omega)).2 Uw)],rfl⟩
      ·refine ah 8 [.nw] [aI ((j:Int)+1)] λ _=>aC 29 (congrArg (λ v_=>(.slice v_ S.dn S.dc:Value)) adE.symm) ?_;refine adR (j+1) [2] [] ?_
       try dsimp only
       refine⟨⟨by omega,λ t ht=>?_⟩,by omega⟩;rcases Nat.lt_or_ge t j with h_|h_
       ·exact hd1 t h_
       ·obtain rfl:t=j:=by omega
        exact⟨YF,Uw⟩
     ·refine ae 14 [] λ _=>aaq [] [] [] (v:=.bool false) (H':=[]) ?_;exact⟨by rw[decide_eq_false (show ¬ oL S rs ds from λ h_=>YF (h_.2.2 j (by omega)).1)],rfl⟩
    ·refine ae 11 [] λ _=>aaq [] [] [] (v:=.bool true) (H':=[]) ?_;exact⟨by rw[decide_eq_true (show oL S rs ds from ⟨⟨by omega,by omega⟩,λ t ht=>ZP t (by omega),λ t ht=>hd1 t (by omega)⟩)],rfl⟩
def wC(v w p:V2):Int:=bz (bz (bz (w.x-v.x)*bz (p.y-v.y))-bz (bz (w.y-v.y)*bz (p.x-v.x)))
def xW(n:Nat):List (Int × Int):=(List.range n).map λ i:Nat=>((i:Int),((i:Int)+1) % (n:Int))
theorem t2(n:Nat):(xW n).length=n:=by simp[xW]
theorem Af{n k:Nat}(h:k<n):(xW n)[k]?=some ((k:Int),((k:Int)+1) % (n:Int)):=by simp[xW,h]
theorem Ag{n k:Nat}{x:Int × Int}(h:(xW n)[k]?=some x):k<n /\ x=((k:Int),((k:Int)+1) % (n:Int)):=by
 have hk:k<n:=by rw[<- t2 n];exact(List.getElem?_eq_some_iff.1 h).1
 rw[Af hk] at h;exact⟨hk,(Option.some.inj h).symm⟩
abbrev N7(x:Int × Int):Array Value:=#[vI x.1,vI x.2]
def Ah(n k:Nat):Int:=((k:Int)+1) % (n:Int)
abbrev vat(l:List V2)(k:Nat):V2:=l.getD k ⟨0,0⟩
def Ai(f:Nat -> V2)(n i:Nat):Prop:=¬ wC (f i) (f (Ah n i).toNat) ⟨0,0⟩ <= 0 /\ ∀k,k<n -> ¬ (k:Int)=(i:Int) -> ¬ (k:Int)=Ah n i -> ¬ wC (f i) (f (Ah n i).toNat) (f k) <= 0
instance (f:Nat -> V2) (n i:Nat):Decidable (Ai f n i):=inferInstanceAs (Decidable (_ /\ _))
def sc(f:Nat -> V2)(n:Nat):Prop:=∀i,i<n -> Ai f n i
instance (f:Nat -> V2) (n:Nat):Decidable (sc f n):=inferInstanceAs (Decidable (∀i,i<n -> _))
theorem MB{n k:Nat}(h:k<n):0 <= Ah n k /\ Ah n k<n:=⟨Int.emod_nonneg _ (by omega),Int.emod_lt_of_pos _ (by omega)⟩
theorem Aj{f g:Nat -> V2}{n:Nat}(h:∀k,k<n -> f k=g k)(hf:sc f n):sc g n:=λ i hi=>by
 have hb:=MB hi;have h1:=hf i hi;unfold Ai at h1 ⊢;rw[h i hi,h (Ah n i).toNat (by omega)] at h1;refine⟨h1.1,λ k hk a b=>?_⟩;have:=h1.2 k hk a b;rwa [h k hk] at this
theorem wD(v w p:V2)(qw qv:Nat)(F:HL)(hqw:(qw,.lit [vI w.x,vI w.y] 29 (0,0))∈F)(hqv:(qv,.lit [vI v.x,vI v.y] 29 (0,0))∈F):Sp Tryz.prog 217 #[.agg #[vI p.x,vI p.y],vP qw 0,vP qv 0] [] F (λ u H'=>u=vI (wC v w p) /\ H'=[]):=by
 refine aav Tryz.func217 rfl (mc hqw (mc hqv mn)) (A:=[]) (Ts:=[]) rfl λ w0=>?_;refine ae 34 [.ro 0,.ro 1,.own 0,.ro 1,.ro 0,.ro 1,.own 0,.ro 1] λ n1=>?_;exact aaq [] [] [] ⟨rfl,rfl⟩
theorem JH(v w:V2)(F:HL):Sp Tryz.prog 174 #[.agg #[vI v.x,vI v.y],.agg #[vI w.x,vI w.y]] (ap [] []) F (λ u H'=>∃n:Nat,H'=ap [((n+1),.lit [vI w.x,vI w.y] 29 (0,0)),((n+0),.lit [vI v.x,vI v.y] 29 (0,0))] [] /\ u=.func (.func 217) #[] #[vP (n+1) 0,vP (n+0) 0]):=by
 refine aav Tryz.func174 rfl mn (A:=[]) (Ts:=[]) rfl λ w0=>?_;refine ae 13 [] λ n1=>aaq [] [0,1] [] (v:=.func (.func 217) #[] #[vP (n1+1) 0,vP (n1+0) 0]) (H':=(ap [((n1+1),.lit [vI w.x,vI w.y] 29 (0,0)),((n1+0),.lit [vI v.x,vI v.y] 29 (0,0))] [])) ?_;exact⟨_,rfl,rfl⟩
theorem GG(n:Nat)(F:HL):Sp Tryz.prog 173 #[vI (n:Int)] (ap [] []) F (λ u H'=>∃q:Nat,H'=ap [(q,.lit [vI (n:Int)] 3 (0,0))] [] /\ u=.func (.func 216) #[] #[vP q 0]):=by
 refine aav Tryz.func173 rfl mn (A:=[]) (Ts:=[]) rfl λ w0=>?_;refine ae 12 [] λ n1=>aaq [] [0] [] (v:=.func (.func 216) #[] #[vP (n1+0) 0]) (H':=(ap [((n1+0),.lit [vI (n:Int)] 3 (0,0))] [])) ?_;exact⟨_,rfl,rfl⟩
theorem CS(n q lp:Nat)(X F:HL)(J:Nat -> HL -> Prop)(Jx:HL -> Prop)(T0:HL)(hn:n <= 1000000)(hq:(q,.lit [vI (n:Int)] 3 (0,0))∈F)(hY:∀i x H Y,(xW n)[i]?=some x -> J i H -> YL Tryz.prog lp (N7 x) H (Y++(X++F)) (λ b H'=>(b=true /\ J (i+1) H') \/ (b=false /\ Jx H')))(XI:J 0 T0):Sp Tryz.prog 216 #[.func (.yield lp) #[] #[],vP q 0] (ap [] [T0]) (X++F) (λ _ H'=>J (xW n).length H' \/ Jx H'):=by
 refine aav Tryz.func216 rfl (mc (List.mem_append_right X hq) mn) (A:=[]) (Ts:=[T0]) rfl λ w0=>?_;refine ae 7 [.ro 0] λ _=>aao (σ:=Nat × HL) (λ ⟨k,T_⟩=>⟨[(0,.func (.yield lp) #[] #[]),(1,vP q 0),(4,vI (n:Int)),(5,vI (k:Int))],[],[T_],k <= n /\ J k T_,n-k⟩) (0,T0) [] [0] (⟨Nat.zero_le _,XI⟩) ?_;rintro⟨k,T_⟩ ⟨X8,UW⟩ Tw;refine ae 6 [] λ _=>aam ((k:Int)<(n:Int)) 6 (λ h3=>?_) λ h3=>?_
 ·refine ah 19 [.nw,.ro 0,.nw] [0 <= (k:Int)+1 /\ (0:Int)<(n:Int) /\ (k:Int)+1 <= 9223372036854775807,aI ((k:Int)+1)] λ _=>aat 0 (hY k _ _ _ (Af (by omega)) UW) ?_;rintro b_ T4 (⟨rfl,hJ5⟩|⟨rfl,hJ5⟩)
  ·refine ah 11 [.gen,.nw] [aI ((k:Int)+1)] λ _=>?_;refine Tw (k+1,T4) [] [0] ?_
   try dsimp only
   exact⟨⟨by omega,hJ5⟩,by omega⟩
  ·refine ae 4 [] λ _=>aaq [] [] [0] (v:=.tuple #[]) (H':=(ap [] [T4])) ?_;rw[aP];exact .inr hJ5
 ·refine ae 5 [] λ _=>aaq [] [] [0] (v:=.tuple #[]) (H':=(ap [] [T_])) ?_;rw[aP];obtain rfl:k=n:=by omega
  exact .inl (by rw[t2];exact UW)
theorem JI(n q:Nat)(F:HL)(hn:n <= 1000000)(hq:(q,.lit [vI (n:Int)] 3 (0,0))∈F):It Tryz.prog 216 #[vP q 0] F N7 (xW n):=by
 intro X l J Jx H0 hY h0;have key:=CS n q l X F J Jx H0 hn hq hY h0;rw[aP] at key;exact key
theorem JK(full:List V2)(b o N n cap:Nat)(fz:Nat × Nat)(F:HL)(hb:(b,.rows 2 N (lj full) 29 fz)∈F)(ho:o+n <= N)(hnn:n <= 1000000):Sp Tryz.prog 141 #[vS b (o*2) n cap] [] F (λ u H'=>u=.bool (decide (sc (λ k_=>full.getD (o+k_) ⟨0,0⟩) n)) /\ H'=[]):=by
 refine Sp.runM Tryz.func141 rfl (mc hb mn) (A:=[]) (Ts:=[]) rfl λ w0=>?_;refine ae 9 [] λ n1=>ae 2 [.own 1] λ _=>aaj (Hp:=[]) (Tp:=[]) [] [] (GG n _) ?_;rintro _ q2 rfl;refine ae 3 [] λ _=>RN.range (σ:=Nat) (τ:=Nat) (encs:=λ (x_:Int × Int)=>#[vI x_.1,vI x_.2]) (xs:=(xW n)) (enters_of Tryz.func216 (by kernel_rfl) rfl) (λ m_=>([((n1+1),.lit [.bool false] 4 (0,0)),((n1+0),.lit [vS b (o*2) n cap] 83 (0,0))],[])) (λ i_ m_=>m_=i_ /\ ∀t,t<m_ -> Ai (λ k_=>full.getD (o+k_) ⟨0,0⟩) n t) (λ c_ m_=>c_=Code.ret /\ ¬ sc (λ k_=>full.getD (o+k_) ⟨0,0⟩) n) (λ m_=>⟨[(1,vP (n1+0) 0),(2,vP (n1+1) 0),(3,vI (m_:Int)),(4,vI (((m_:Int)+1) % (n:Int)))],[((n1+1),.lit [.bool false] 4 (0,0)),((n1+0),.lit [vS b (o*2) n cap] 83 (0,0))],[],True,0⟩) (λ i_ x_ m_=>m_=i_ /\ ∀t,t<m_ -> Ai (λ k_=>full.getD (o+k_) ⟨0,0⟩) n t) 0 (⟨rfl,λ t ht=>absurd ht (Nat.not_lt_zero _)⟩) [1,2] [] (JI n q2 _ hnn (az 0)) ?_ ?_ ?_ ?_
 ·rintro l_ i_ x_ m_ Y3 w4 hx5 C_ mt6;obtain⟨rfl,iD⟩:=C_;obtain⟨hm_,rfl⟩:=Ag hx5;refine ae 8 [] λ _=>?_;refine mt6 m_ [0,1] [] ?_
  try dsimp only
  exact⟨rfl,iD⟩
 ·rintro l_ i_ x_ m_ Y7 w8 hx9 C_;obtain⟨rfl,iD⟩:=C_;obtain⟨hm_,rfl⟩:=Ag hx9;have hm1:=Int.emod_nonneg ((m_:Int)+1) (show (n:Int)≠0 by omega);have hm2:=Int.emod_lt_of_pos ((m_:Int)+1) (show (0:Int)<n by omega);refine ae 2 [] λ _=>aal [] []<|av [] [0,1,4,5,2,6,3,7] [.own 1,.own 1,.ix m_,.ix (((((m_:Int)+1) % (n:Int))).toNat),.rorow 1 (o+m_) 0,.rorow 1 (o+m_) 1,.rorow 1 (o+(((((m_:Int)+1) % (n:Int))).toNat)) 0,.rorow 1 (o+(((((m_:Int)+1) % (n:Int))).toNat)) 1] [((o*2+(((((m_:Int)+1) % (n:Int))).toNat)*2)+1)=(o+(((((m_:Int)+1) % (n:Int))).toNat))*2+1 /\ (o+(((((m_:Int)+1) % (n:Int))).toNat))<N,(o*2+(((((m_:Int)+1) % (n:Int))).toNat)*2)=(o+(((((m_:Int)+1) % (n:Int))).toNat))*2+0 /\ (o+(((((m_:Int)+1) % (n:Int))).toNat))<N,((o*2+m_*2)+1)=(o+m_)*2+1 /\ (o+m_)<N,(o*2+m_*2)=(o+m_)*2+0 /\ (o+m_)<N,(((m_:Int)+1) % (n:Int))=((((((m_:Int)+1) % (n:Int))).toNat:Nat):Int) /\ ((((m_:Int)+1) % (n:Int))).toNat<n,(m_:Int)=((m_:Nat):Int) /\ m_<n]<|aae 8 (aaf [] (Hp:=[]) (Tp:=[]) [] [] (JH (full.getD (o+m_) ⟨0,0⟩) (full.getD (o+(((((m_:Int)+1) % (n:Int))).toNat)) ⟨0,0⟩) _) ?_);rintro _ m10 rfl;refine ag [] [9] []<|aad<|ae 6 [] λ _=>aai (wD (full.getD (o+m_) ⟨0,0⟩) (full.getD (o+(((((m_:Int)+1) % (n:Int))).toNat)) ⟨0,0⟩) (⟨0,0⟩:V2) (m10+1) (m10+0) _ (az 0) (az 1))<|ae 3 [] λ _=>aam (wC (full.getD (o+m_) ⟨0,0⟩) (full.getD (o+(((((m_:Int)+1) % (n:Int))).toNat)) ⟨0,0⟩) (⟨0,0⟩:V2) <= 0) 25 (λ Vd=>?_) λ Vd=>?_
  ·refine ae 6 [.own 2] λ _=>RN.rr m_ [2,3] [] ?_
   try dsimp only
   exact⟨rfl,λ Uv=>(Uv m_ hm_).1 Vd⟩
  ·refine ae 11 [.own 3] λ _=>aao (σ:=Nat) (λ k=>⟨[(2,vP (n1+1) 0),(3,vI (m_:Int)),(4,vI (((m_:Int)+1) % (n:Int))),(5,.func (.func 217) #[] #[vP (m10+1) 0,vP (m10+0) 0]),(26,vS b (o*2) n cap),(27,vI (n:Int)),(28,vI (k:Int))],[((m10+1),.lit [vI ((full.getD (o+(((((m_:Int)+1) % (n:Int))).toNat)) ⟨0,0⟩).x),vI ((full.getD (o+(((((m_:Int)+1) % (n:Int))).toNat)) ⟨0,0⟩).y)] 29 (0,0)),((m10+0),.lit [vI ((full.getD (o+m_) ⟨0,0⟩).x),vI ((full.getD (o+m_) ⟨0,0⟩).y)] 29 (0,0)),((n1+1),.lit [.bool false] 4 (0,0)),((n1+0),.lit [vS b (o*2) n cap] 83 (0,0))],[],k <= n /\ ∀t,t<k -> ¬ (t:Int)=(m_:Int) -> ¬ (t:Int)=Ah n m_ -> ¬ wC (full.getD (o+m_) ⟨0,0⟩) (full.getD (o+(Ah n m_).toNat) ⟨0,0⟩) (full.getD (o+t) ⟨0,0⟩) <= 0,n-k⟩) 0 [0,1,2,3] [] (⟨Nat.zero_le _,λ t ht=>absurd ht (Nat.not_lt_zero _)⟩) ?_;rintro k ⟨hkl,U8⟩ Zn;refine ae 6 [] λ _=>aam ((k:Int)<(n:Int)) 29 (λ VT=>?_) λ VT=>?_
   ·refine ah 21 [.ix k,.rorow 1 (o+k) 0,.rorow 1 (o+k) 1,.own 0,.own 0] [((o*2+k*2)+1)=(o+k)*2+1 /\ (o+k)<N,(o*2+k*2)=(o+k)*2+0 /\ (o+k)<N,(k:Int)=((k:Nat):Int) /\ k<n] λ n15=>aan ((k:Int)=(m_:Int)) 36 (λ Uw=>?_) λ Uw=>?_
    ·refine ah 20 [.nw] [aI ((k:Int)+1)] λ _=>?_;refine Zn (k+1) [1,2,3,4] [] ?_
     try dsimp only
     refine⟨⟨by omega,λ t ht e1_ Ze=>?_⟩,by omega⟩;rcases Nat.lt_or_ge t k with h_|h_
     ·exact U8 t h_ e1_ Ze
     ·obtain rfl:t=k:=by omega
      exact absurd Uw e1_
    ·refine ae 5 [] λ _=>aan ((k:Int)=(((m_:Int)+1) % (n:Int))) 41 (λ h17=>?_) λ h17=>?_
     ·refine ah 15 [.nw] [aI ((k:Int)+1)] λ _=>?_;refine Zn (k+1) [1,2,3,4] [] ?_
      try dsimp only
      refine⟨⟨by omega,λ t ht e1_ Ze=>?_⟩,by omega⟩;rcases Nat.lt_or_ge t k with h_|h_
      ·exact U8 t h_ e1_ Ze
      ·obtain rfl:t=k:=by omega
       exact absurd h17 Ze
     ·refine ae 2 (aab 2) λ _=>aai (wD (full.getD (o+m_) ⟨0,0⟩) (full.getD (o+(((((m_:Int)+1) % (n:Int))).toNat)) ⟨0,0⟩) (full.getD (o+k) ⟨0,0⟩) (m10+1) (m10+0) _ (az 1) (az 2))<|ae 4 [] λ _=>aam (wC (full.getD (o+m_) ⟨0,0⟩) (full.getD (o+(((((m_:Int)+1) % (n:Int))).toNat)) ⟨0,0⟩) (full.getD (o+k) ⟨0,0⟩) <= 0) 46 (λ h18=>?_) λ h18=>?_
      ·refine ae 6 [.own 3] λ _=>RN.rr m_ [3,4] [] ?_
       try dsimp only
       refine⟨rfl,λ Uv=>?_⟩;exact(Uv m_ hm_).2 k (by omega) Uw h17 h18
      ·refine ah 8 [.nw] [aI ((k:Int)+1)] λ _=>?_;refine Zn (k+1) [1,2,3,4] [] ?_
       try dsimp only
       refine⟨⟨by omega,λ t ht e1_ Ze=>?_⟩,by omega⟩;rcases Nat.lt_or_ge t k with h_|h_
       ·exact U8 t h_ e1_ Ze
       ·obtain rfl:t=k:=by omega
        exact h18
   ·refine ae 6 [] λ _=>RN.rn (m_+1) [2,3] [] ?_
    try dsimp only
    refine⟨rfl,λ t ht=>?_⟩;rcases Nat.lt_or_ge t m_ with h_|h_
    ·exact iD t h_
    ·obtain rfl:t=m_:=by omega
     exact⟨Vd,λ s_ IT=>U8 s_ (by omega)⟩
 ·rintro d19 m_  C_;obtain⟨rfl,iD⟩:=C_;refine ae 7 [.own 1] λ _=>RN.retM [d19] [0] [.own 0] [] [] (v:=.bool true) (H':=[]) ?_;exact⟨by rw[decide_eq_true (show sc (λ k_=>full.getD (o+k_) ⟨0,0⟩) n from λ t ht=>iD t (by rw[t2];exact ht))],rfl⟩
 ·rintro d20 c_ m_ ⟨rfl,VL⟩;refine RN.retM [d20] [0] [.own 0] [] [] (v:=.bool false) (H':=[]) ?_;exact⟨by rw[decide_eq_false VL],rfl⟩
def vv(n:Int):Prop:=-32768 <= n /\ n <= 32768
instance (n:Int):Decidable (vv n):=inferInstanceAs (Decidable (_ /\ _))
def pg(r:Int):Prop:=1 <= r /\ r <= 32768
instance (r:Int):Decidable (pg r):=inferInstanceAs (Decidable (_ /\ _))
def jE(r:Int)(f:Nat -> V2)(n:Nat):Prop:=(r=0 /\ 3 <= n /\ n <= 6) /\ (∀k,k<n -> vv (f k).x /\ vv (f k).y) /\ sc f n
instance (r:Int) (f:Nat -> V2) (n:Nat):Decidable (jE r f n):=inferInstanceAs (Decidable (_ /\ _ /\ _))
theorem sd{r:Int}{f g:Nat -> V2}{n:Nat}(h:∀k,k<n -> f k=g k)(hf:jE r f n):jE r g n :=
 ⟨hf.1,λ k hk=>by rw[<- h k hk];exact hf.2.1 k hk,Aj h hf.2.2⟩
def mZ(s:Shp):Prop:=if s.poly.length=0 then pg s.r else jE s.r (vat s.poly) s.poly.length
instance (s:Shp):Decidable (mZ s):=inferInstanceAs (Decidable (if s.poly.length=0 then pg s.r else jE s.r (vat s.poly) s.poly.length))
theorem qX{r:Int}{A:Option Addr}{cap:Nat}:mZ ⟨r,[],A,cap⟩↔pg r:=by
 show (if (0:Nat)=0 then pg r else _)↔_;rw[if_pos rfl]
def GH(s:Shp):Int:=if mZ s then 0 else 10
theorem Ak(n:Int)  (F:HL):Sp Tryz.prog 140 #[vI n] [] F (λ u H'=>u=.bool (decide (vv n)) /\ H'=[]):=by
 refine aav Tryz.func140 rfl mn (A:=[]) (Ts:=[]) rfl λ w0=>?_;refine ae 10 [] λ _=>aam ((-32768) <= n) 5 (λ h1=>?_) λ h1=>?_
 ·refine ae 6 [] λ _=>aaq [] [] [] (v:=.bool (decide (n <= 32768))) (H':=[]) ?_;exact⟨by simp[vv, *],rfl⟩
 ·refine ae 6 [] λ _=>aaq [] [] [] (v:=.bool false) (H':=[]) ?_;exact⟨by simp[vv, *],rfl⟩
theorem CT(r:Int)(A:Option Addr)(cap:Nat)(F:HL):Sp Tryz.prog 108 #[.agg #[vI r,.slice A 0 cap]] [] F (λ u H'=>u=vI (GH ⟨r,[],A,cap⟩) /\ H'=[]):=by
 refine aav Tryz.func108 rfl mn (A:=[]) (Ts:=[]) rfl λ w0=>?_;refine ae 10 (aab 2) λ n1=>aai (qM r A 0 cap _)<|ae 10 [.own 0] λ _=>aam (r<1) 10 (λ h2=>?_) λ h2=>?_
 ·refine ae 12 [] λ _=>aaq [] [] [] (v:=vI 10) (H':=[]) ?_;exact⟨by rw[GH,if_neg (λ h_=>by have R_:=qX.1 h_;unfold pg at R_;omega)],rfl⟩
 ·refine ae 6 [.own 0] λ _=>aam (r>32768) 14 (λ h3=>?_) λ h3=>?_
  ·refine ae 6 [] λ _=>aaq [] [] [] (v:=vI 10) (H':=[]) ?_;exact⟨by rw[GH,if_neg (λ h_=>by have R_:=qX.1 h_;unfold pg at R_;omega)],rfl⟩
  ·refine ae 8 [] λ _=>aaq [] [] [] (v:=vI 0) (H':=[]) ?_;exact⟨by rw[GH,if_pos (qX.2 ⟨by omega,by omega⟩)],rfl⟩
theorem JL(r:Int)(full:List V2)(b o N n cap:Nat)(fz:Nat × Nat)(F:HL)(hb:(b,.rows 2 N (lj full) 29 fz)∈F)(ho:o+n <= N)(h1:1 <= n)(hnn:n <= 1000000):Sp Tryz.prog 108 #[.agg #[vI r,vS b (o*2) n cap]] [] F (λ u H'=>u=vI (if jE r (λ k_=>full.getD (o+k_) ⟨0,0⟩) n then 0 else 10) /\ H'=[]):=by
 refine aav Tryz.func108 rfl (mc hb mn) (A:=[]) (Ts:=[]) rfl λ w0=>?_;refine ae 10 (aab 2) λ n1=>aai (qM r (some ⟨b,o*2,none⟩) n cap _)<|ae 2 [] λ _=>bL 6 (decide_eq_false (show ¬ ((n:Int)=0) by omega))<|ae 10 [.own 0] λ _=>aan (r=0) 18 (λ h2=>?_) λ h2=>?_
 ·refine ae 6 [.own 0] λ _=>aam ((n:Int)<3) 24 (λ h3=>?_) λ h3=>?_
  ·refine ae 13 [] λ _=>aaq [] [] [] (v:=vI 10) (H':=[]) ?_;exact⟨by rw[if_neg (show ¬ jE r (λ k_=>full.getD (o+k_) ⟨0,0⟩) n from λ h_=>by have:=h_.1;omega)],rfl⟩
  ·refine ae 7 [.own 0] λ _=>aam ((n:Int)>6) 29 (λ h4=>?_) λ h4=>?_
   ·refine ae 6 [] λ _=>aaq [] [] [] (v:=vI 10) (H':=[]) ?_;exact⟨by rw[if_neg (show ¬ jE r (λ k_=>full.getD (o+k_) ⟨0,0⟩) n from λ h_=>by have:=h_.1;omega)],rfl⟩
   ·refine ae 13 [.own 0] λ _=>aao (σ:=Nat) (λ k=>⟨[(1,vP (n1+0) 0),(31,vS b (o*2) n cap),(32,vI (n:Int)),(33,vI (k:Int))],[((n1+0),.lit [vI r,vS b (o*2) n cap] 85 (0,0))],[],k <= n /\ ∀t,t<k -> vv (full.getD (o+t) (⟨0,0⟩:V2)).x /\ vv (full.getD (o+t) (⟨0,0⟩:V2)).y,n-k⟩) 0 [0] [] (⟨Nat.zero_le _,λ t ht=>absurd ht (Nat.not_lt_zero _)⟩) ?_;rintro k ⟨hkl,U8⟩ mt6;refine ae 6 [] λ _=>aam ((k:Int)<(n:Int)) 34 (λ h7=>?_) λ h7=>?_
    ·refine ah 17 [.ix k,.rorow 0 (o+k) 0,.rorow 0 (o+k) 1,.own 0,.own 0,.own 0] [((o*2+k*2)+1)=(o+k)*2+1 /\ (o+k)<N,(o*2+k*2)=(o+k)*2+0 /\ (o+k)<N,(k:Int)=((k:Nat):Int) /\ k<n] λ n8=>aai (Ak ((full.getD (o+k) ⟨0,0⟩).x)  _)<|ae 2 [] λ _=>aan (vv ((full.getD (o+k) ⟨0,0⟩).x)) 41 (λ h9=>?_) λ h9=>?_
     ·refine ae 2 [.own 0] λ _=>aai (Ak ((full.getD (o+k) ⟨0,0⟩).y)  _)<|ae 4 [] λ _=>aan (vv ((full.getD (o+k) ⟨0,0⟩).y)) 46 (λ VU=>?_) λ VU=>?_
      ·refine ah 8 [.nw] [aI ((k:Int)+1)] λ _=>?_;refine mt6 (k+1) [1] [] ?_
       try dsimp only
       refine⟨⟨by omega,λ t ht=>?_⟩,by omega⟩;rcases Nat.lt_or_ge t k with h_|h_
       ·exact U8 t h_
       ·obtain rfl:t=k:=by omega
        exact⟨h9,VU⟩
      ·refine ae 6 [] λ _=>aaq [] [] [] (v:=vI 10) (H':=[]) ?_;exact⟨by rw[if_neg (show ¬ jE r (λ k_=>full.getD (o+k_) ⟨0,0⟩) n from λ h_=>VU (h_.2.1 k (by omega)).2)],rfl⟩
     ·refine ae 13 [] λ _=>aaq [] [] [] (v:=vI 10) (H':=[]) ?_;exact⟨by rw[if_neg (show ¬ jE r (λ k_=>full.getD (o+k_) ⟨0,0⟩) n from λ h_=>h9 (h_.2.1 k (by omega)).1)],rfl⟩
    ·refine ae 11 [.own 0] λ _=>aai (JK full b o N n cap fz _ (aq hb) ho hnn)<|ae 3 [] λ _=>aan (sc (λ k_=>full.getD (o+k_) ⟨0,0⟩) n) 51 (λ Vd=>?_) λ Vd=>?_
     ·refine ae 8 [] λ _=>aaq [] [] [] (v:=vI 0) (H':=[]) ?_;exact⟨by rw[if_pos (show jE r (λ k_=>full.getD (o+k_) ⟨0,0⟩) n from ⟨⟨by omega,by omega,by omega⟩,λ t ht=>U8 t (by omega),Vd⟩)],rfl⟩
     ·refine ae 6 [] λ _=>aaq [] [] [] (v:=vI 10) (H':=[]) ?_;exact⟨by rw[if_neg (show ¬ jE r (λ k_=>full.getD (o+k_) ⟨0,0⟩) n from λ h_=>Vd h_.2.2)],rfl⟩
 ·refine ae 19 [] λ _=>aaq [] [] [] (v:=vI 10) (H':=[]) ?_;exact⟨by rw[if_neg (show ¬ jE r (λ k_=>full.getD (o+k_) ⟨0,0⟩) n from λ h_=>by have:=h_.1;omega)],rfl⟩
theorem MC(s:Shp)(F:HL)(h:RowL oC 29 F s.A s.poly.length s.poly)(hn:s.poly.length <= 1000000):Sp Tryz.prog 108 #[P4 s] [] F (λ u H'=>u=vI (GH s) /\ H'=[]):=by
 obtain⟨r,l,A,cap⟩:=s;simp only at h hn;rcases Nat.eq_zero_or_pos l.length with h0|h0
 ·obtain rfl:l=[]:=List.eq_nil_of_length_eq_zero h0;exact CT r A cap F
 ·generalize hm:l.length=m at h h0 hn;cases h with
  | zero=>omega
  | rows q o N full fz n xs hq ho hn' hx =>
   have:=JL r full q o N m cap fz F hq ho h0 hn;have e:GH ⟨r,l,some ⟨q,o*2,none⟩,cap⟩=if jE r (λ k_=>full.getD (o+k_) ⟨0,0⟩) m then 0 else 10:=by
    have e1:mZ ⟨r,l,some ⟨q,o*2,none⟩,cap⟩↔jE r (λ k_=>full.getD (o+k_) ⟨0,0⟩) m:=by
     unfold mZ;simp only;rw[if_neg (by omega),hm];exact⟨sd λ k hk=>(hx k hk).symm,sd λ k hk=>hx k hk⟩
    unfold GH
    by_cases hc:jE r (λ k_=>full.getD (o+k_) ⟨0,0⟩) m
    ·rw[if_pos hc,if_pos (e1.2 hc)]
    ·rw[if_neg hc,if_neg λ h=>hc (e1.1 h)]
   show Sp _ _ #[.agg #[vI r,.slice (some ⟨q,o*2,none⟩) l.length cap]] _ _ (λ u H'=>u=vI (GH ⟨r,l,some ⟨q,o*2,none⟩,cap⟩) /\ H'=[]);rw[e,hm];exact this
structure SetSh(F:HL)(S:Setup):Prop where
 nb:S.nb <= 1000000
 blk:(S.bb,.rows 9 S.bR (kW S.bods) 90 (0,0))∈F
 room:S.bo+S.nb <= S.bR
 pol:∀k,k<S.nb -> RowL oC 29 F (S.body k).sh.A (S.body k).sh.poly.length (S.body k).sh.poly /\ (S.body k).sh.poly.length <= 1000000
theorem ShIn.rowL{F:HL}{s:Shp}(h:ShIn F s):RowL oC 29 F s.A s.poly.length s.poly /\ s.poly.length <= 1000000:=by
 cases h with
 | circle r A cap=>exact⟨.zero _,Nat.zero_le _⟩
 | poly r l b cap h h3 h4 h5=>exact⟨RowL.whole (e:=oC) h h4,h5⟩
def CU(S:Setup)(rs:List Bx)(ds:List Dr):Prop:=lw S /\ iV S.box /\ oL S rs ds
instance (S:Setup) (rs:List Bx) (ds:List Dr):Decidable (CU S rs ds):=inferInstanceAs (Decidable (_ /\ _))
def lU(S:Setup)(rs:List Bx)(ds:List Dr):Int:=if ∀k,k<S.nb -> mZ (S.body k).sh then (if CU S rs ds then (if ∀k,k<S.nb -> gV (S.body k) S.box then 0 else 11) else 11) else 10
theorem O9{s:Shp}(h:GH s=0):mZ s:=by
 unfold GH at h;split at h
 ·assumption
 ·omega
theorem Pa{s:Shp}(h:¬ GH s=0):¬ mZ s:=λ hc=>h (by rw[GH,if_pos hc])
theorem MD(S:Setup)(rs:List Bx)(ds:List Dr)(F:HL)(hS:SetSh F S)(hM:MapIn F S rs ds):Sp Tryz.prog 85 #[(Setup.v S)] [] F (λ u H'=>u=vI (lU S rs ds) /\ H'=[]):=by
 have hn:=hS.nb;have hr:=hS.room;refine aav Tryz.func85 rfl (mc hS.blk mn) (A:=[]) (Ts:=[]) rfl λ w0=>?_;refine ae 16 [.own 0] λ n1=>aao (σ:=Nat) (λ k=>⟨[(1,vP (n1+0) 0),(8,vS S.bb (S.bo*9) S.nb S.bc),(9,vI (S.nb:Int)),(10,vI (k:Int))],[((n1+0),.lit (Setup.l S) 31 (0,0))],[],k <= S.nb /\ ∀t,t<k -> mZ (S.body t).sh,S.nb-k⟩) 0 [0] [] (⟨Nat.zero_le _,λ t ht=>absurd ht (Nat.not_lt_zero _)⟩) ?_;rintro k ⟨hkl,Wj⟩ Th;refine ae 6 [] λ _=>aam ((k:Int)<(S.nb:Int)) 11 (λ h4=>?_) λ h4=>?_
 ·refine ah 17 ([.ix k,.rorow 0 (S.bo+k) 0,.rorow 0 (S.bo+k) 1,.rorow 0 (S.bo+k) 2,.rorow 0 (S.bo+k) 3,.rorow 0 (S.bo+k) 4,.rorow 0 (S.bo+k) 5,.rorow 0 (S.bo+k) 6,.rorow 0 (S.bo+k) 7,.rorow 0 (S.bo+k) 8]++ow 0 11) [((S.bo*9+k*9)+8)=(S.bo+k)*9+8 /\ (S.bo+k)<S.bR,((S.bo*9+k*9)+7)=(S.bo+k)*9+7 /\ (S.bo+k)<S.bR,((S.bo*9+k*9)+6)=(S.bo+k)*9+6 /\ (S.bo+k)<S.bR,((S.bo*9+k*9)+5)=(S.bo+k)*9+5 /\ (S.bo+k)<S.bR,((S.bo*9+k*9)+4)=(S.bo+k)*9+4 /\ (S.bo+k)<S.bR,((S.bo*9+k*9)+3)=(S.bo+k)*9+3 /\ (S.bo+k)<S.bR,((S.bo*9+k*9)+2)=(S.bo+k)*9+2 /\ (S.bo+k)<S.bR,((S.bo*9+k*9)+1)=(S.bo+k)*9+1 /\ (S.bo+k)<S.bR,(S.bo*9+k*9)=(S.bo+k)*9+0 /\ (S.bo+k)<S.bR,(k:Int)=((k:Nat):Int) /\ k<S.nb] λ n5=>aai (MC ((S.bods.getD (S.bo+k) dB).sh) _ (hS.pol k (by omega)).1.up (hS.pol k (by omega)).2)<|ae 3 [] λ _=>aan (GH ((S.bods.getD (S.bo+k) dB).sh)=0) 17 (λ h6=>?_) λ h6=>?_
  ·refine ah 8 [.nw] [aI ((k:Int)+1)] λ _=>?_;refine Th (k+1) [1] [] ?_
   try dsimp only
   refine⟨⟨by omega,λ t ht=>?_⟩,by omega⟩;rcases Nat.lt_or_ge t k with h_|h_
   ·exact Wj t h_
   ·obtain rfl:t=k:=by omega
    exact O9 h6
  ·refine ae 6 [] λ _=>aaq [] [] [] (v:=vI 10) (H':=[]) ?_;exact⟨by rw[lU,if_neg (show ¬ ∀k,k<S.nb -> mZ (S.body k).sh from λ h_=>Pa h6 (h_ k (by omega)))],rfl⟩
 ·refine ae 10 (ow 0 16) λ _=>aai (JF S _)<|ae 2 [] λ _=>aan (lw S) 22 (λ h7=>?_) λ h7=>?_
  ·refine ae 2 (aab 4) λ _=>aai (tZ S.box  _)<|ae 3 [] λ _=>aan (iV S.box) 28 (λ h8=>?_) λ h8=>?_
   ·refine ae 1 (ow 0 16) λ _=>aai (JG S rs ds _ hM.up)<|ae 4 [] λ _=>aan (oL S rs ds) 32 (λ h9=>?_) λ h9=>?_
    ·refine ae 13 [.own 0] λ _=>aao (σ:=Nat) (λ j=>⟨[(1,vP (n1+0) 0),(34,vS S.bb (S.bo*9) S.nb S.bc),(35,vI (S.nb:Int)),(36,vI (j:Int))],[((n1+0),.lit (Setup.l S) 31 (0,0))],[],j <= S.nb /\ ∀t,t<j -> gV (S.body t) S.box,S.nb-j⟩) 0 [0] [] (⟨Nat.zero_le _,λ t ht=>absurd ht (Nat.not_lt_zero _)⟩) ?_;rintro j ⟨XF,hvb⟩ adR;refine ae 6 [] λ _=>aam ((j:Int)<(S.nb:Int)) 37 (λ Uq=>?_) λ Uq=>?_
     ·refine ah 18 ([.ix j,.rorow 0 (S.bo+j) 0,.rorow 0 (S.bo+j) 1,.rorow 0 (S.bo+j) 2,.rorow 0 (S.bo+j) 3,.rorow 0 (S.bo+j) 4,.rorow 0 (S.bo+j) 5,.rorow 0 (S.bo+j) 6,.rorow 0 (S.bo+j) 7,.rorow 0 (S.bo+j) 8]++ow 0 18++[.own 1,.own 1,.own 1,.own 1]) [((S.bo*9+j*9)+8)=(S.bo+j)*9+8 /\ (S.bo+j)<S.bR,((S.bo*9+j*9)+7)=(S.bo+j)*9+7 /\ (S.bo+j)<S.bR,((S.bo*9+j*9)+6)=(S.bo+j)*9+6 /\ (S.bo+j)<S.bR,((S.bo*9+j*9)+5)=(S.bo+j)*9+5 /\ (S.bo+j)<S.bR,((S.bo*9+j*9)+4)=(S.bo+j)*9+4 /\ (S.bo+j)<S.bR,((S.bo*9+j*9)+3)=(S.bo+j)*9+3 /\ (S.bo+j)<S.bR,((S.bo*9+j*9)+2)=(S.bo+j)*9+2 /\ (S.bo+j)<S.bR,((S.bo*9+j*9)+1)=(S.bo+j)*9+1 /\ (S.bo+j)<S.bR,(S.bo*9+j*9)=(S.bo+j)*9+0 /\ (S.bo+j)<S.bR,(j:Int)=((j:Nat):Int) /\ j<S.nb] λ n13=>aai (GE (S.bods.getD (S.bo+j) dB) S.box _)<|ae 3 [] λ _=>aan (gV (S.bods.getD (S.bo+j) dB) S.box) 44 (λ VT=>?_) λ VT=>?_
      ·refine ah 8 [.nw] [aI ((j:Int)+1)] λ _=>?_;refine adR (j+1) [1] [] ?_
       try dsimp only
       refine⟨⟨by omega,λ t ht=>?_⟩,by omega⟩;rcases Nat.lt_or_ge t j with h_|h_
       ·exact hvb t h_
       ·obtain rfl:t=j:=by omega
        exact VT
      ·refine ae 6 [] λ _=>aaq [] [] [] (v:=vI 11) (H':=[]) ?_;exact⟨by rw[lU,if_pos (show ∀k,k<S.nb -> mZ (S.body k).sh from λ t ht=>Wj t (by omega)),if_pos (show CU S rs ds from ⟨h7,h8,h9⟩),if_neg (show ¬ ∀k,k<S.nb -> gV (S.body k) S.box from λ h_=>VT (h_ j (by omega)))],rfl⟩
     ·refine ae 11 [] λ _=>aaq [] [] [] (v:=vI 0) (H':=[]) ?_;exact⟨by rw[lU,if_pos (show ∀k,k<S.nb -> mZ (S.body k).sh from λ t ht=>Wj t (by omega)),if_pos (show CU S rs ds from ⟨h7,h8,h9⟩),if_pos (show ∀k,k<S.nb -> gV (S.body k) S.box from λ t ht=>hvb t (by omega))],rfl⟩
    ·refine ae 6 [] λ _=>aaq [] [] [] (v:=vI 11) (H':=[]) ?_;exact⟨by rw[lU,if_pos (show ∀k,k<S.nb -> mZ (S.body k).sh from λ t ht=>Wj t (by omega)),if_neg (show ¬ CU S rs ds from λ h_=>h9 h_.2.2)],rfl⟩
   ·refine ae 12 [] λ _=>aaq [] [] [] (v:=vI 11) (H':=[]) ?_;exact⟨by rw[lU,if_pos (show ∀k,k<S.nb -> mZ (S.body k).sh from λ t ht=>Wj t (by omega)),if_neg (show ¬ CU S rs ds from λ h_=>h8 h_.2.1)],rfl⟩
  ·refine ae 18 [] λ _=>aaq [] [] [] (v:=vI 11) (H':=[]) ?_;exact⟨by rw[lU,if_pos (show ∀k,k<S.nb -> mZ (S.body k).sh from λ t ht=>Wj t (by omega)),if_neg (show ¬ CU S rs ds from λ h_=>h7 h_.1)],rfl⟩
def m0(S:Setup):List Bod:=(List.range S.nb).map S.body
theorem lx(S:Setup):(m0 S).length=S.nb:=by simp[m0]
theorem nS{S:Setup}{k:Nat}(h:k<S.nb):(m0 S).getD k dB=S.body k:=by simp[m0,h]
theorem GI{F:HL}{S:Setup}(hS:SetSh F S):RowL mH 90 F (some ⟨S.bb,S.bo*9,none⟩) S.nb (m0 S) :=
 .rows S.bb S.bo S.bR S.bods (0,0) S.nb (m0 S) hS.blk hS.room (lx S) (λ k hk=>(nS hk).symm)
theorem ClS.open{α:Type}{e:Enc α}{T:TypeId}{xs:List α}{A:Option Addr}{c:Nat}{Hl:HL}(h:ClS e T xs A c Hl)(hx:0<xs.length):∃b,A=some ⟨b,0,none⟩ /\ Hl=[(b,.rows e.w c (aL e xs) T (0,0))] /\ xs.length <= c:=by
 obtain⟨A0,h⟩:=h;rcases h with ⟨rfl,_⟩|⟨b,h1,h2,h3⟩
 ·simp at hx
 ·exact⟨b,h1,h2,h3⟩
structure SetCl(F:HL)(S:Setup):Prop extends SetN S where
 blk:(S.bb,.rows 9 S.bR (kW S.bods) 90 (0,0))∈F
 room:S.bo+S.nb <= S.bR
 shp:∀k,k<S.nb -> (RowL oC 29 F (S.body k).sh.A (S.body k).sh.poly.length (S.body k).sh.poly /\ (S.body k).sh.poly.length <= 1000000) /\ ((S.body k).sh.poly=[] \/ 3 <= (S.body k).sh.poly.length)
theorem SetIn.cl{F:HL}{S:Setup}(h:SetIn F S):SetCl F S:=⟨h.toSetN,h.blk,h.room,λ k hk=>⟨(h.shp k hk).rowL,by
 have h1:=h.shp k hk;generalize (S.body k).sh=s at h1;cases h1 with
 | circle r A cap=>exact .inl rfl
 | poly r l b cap h h3 h4 h5=>exact .inr h3⟩⟩
theorem SetCl.up{F X:HL}{S:Setup}(h:SetCl F S):SetCl (X++F) S:=⟨h.toSetN,List.mem_append_right _ h.blk,h.room,λ k hk=>⟨⟨(h.shp k hk).1.1.up,(h.shp k hk).1.2⟩,(h.shp k hk).2⟩⟩
theorem SetCl.toSh{F:HL}{S:Setup}(h:SetCl F S):SetSh F S:=⟨h.nb,h.blk,h.room,λ k hk=>(h.shp k hk).1⟩
theorem GJ{s:Shp}(h:s.poly=[] \/ 3 <= s.poly.length)(hl:s.poly.length <= 1000000){A:Option Addr}{c:Nat}{T:HL}(hc:ClS oC 29 s.poly A c T):ShH ⟨s.r,s.poly,A,c⟩ T:=by
 intro F' hF;rcases h with h|h
 ·rw[h];exact .circle _ _ _
 ·obtain⟨b2,rfl,rfl,h6⟩:=hc.open (by omega);exact .poly _ _ _ _ (hF _ (List.mem_singleton.2 rfl)) h h6 hl
def Bod.at(b:Bod)(A:Option Addr)(c:Nat):Bod:=⟨⟨b.sh.r,b.sh.poly,A,c⟩,b.mot,b.a,b.b⟩
theorem gy{α:Type}{l:List α}{i:Nat}{x d:α}(h:i<l.length):(l.set i x).getD i d=x:=by simp[h]
theorem ga{α:Type}{l:List α}{i k:Nat}{x d:α}(h:¬ i=k):(l.set i x).getD k d=l.getD k d:=by simp[List.getElem?_set,h]
theorem ME{l:List Bod}{i:Nat}(h:i<l.length)(A:Option Addr)(c:Nat):dG (kW l) i 1 (.slice A (l.getD i dB).sh.poly.length c)=kW (l.set i ((l.getD i dB).at A c)):=by
 funext j k;unfold dG
 by_cases h1:j=i
 ·subst h1;show _=mH.cell ((l.set j ((l.getD j dB).at A c)).getD j dB) k;rw[gy h]
  by_cases h2:k=1
  ·subst h2;simp;rfl
  ·rw[if_neg (by simp[h2])];show mH.cell (l.getD j dB) k=_;rcases k with _|_|k
   ·rfl
   ·exact absurd rfl h2
   ·rcases k with _|_|_|_|_|_|k <;> rfl
 ·rw[if_neg (by simp[h1])];show mH.cell (l.getD j dB) k=mH.cell ((l.set i _).getD j dB) k;rw[ga (λ e=>h1 e.symm)]
structure SetEq(S S':Setup):Prop where
 nums:S'.players=S.players /\ S'.nb=S.nb /\ S'.box=S.box /\ S'.rn=S.rn /\ S'.dn=S.dn /\ S'.fog=S.fog /\ S'.g=S.g /\ S'.push=S.push /\ S'.drag=S.drag /\ S'.rest=S.rest /\ S'.rounds=S.rounds /\ S'.fuel=S.fuel
 bod:∀k,k<S.nb -> ∃A c,S'.body k=(S.body k).at A c
 whole:S'.bo=0 /\ S'.bods.length=S.nb
def se(S:Setup)(rs:List Bx)(ds:List Dr)(U:HL):Prop:=∀F,(∀y∈U,y∈F) -> SetIn F S /\ MapIn F S rs ds
theorem CV(S:Setup)(rs:List Bx)(ds:List Dr)(F:HL)(hS:SetCl F S)(hM:MapIn F S rs ds)(h1:1 <= S.nb)(TW:S.rn <= 1000000)(VQ:S.dn <= 1000000):Sp Tryz.prog 86 #[Setup.v S] (ap [] []) F (λ u H'=>∃x:Setup × HL,H'=ap [] [x.2] /\ (u=Setup.v x.1 /\ SetEq S x.1 /\ se x.1 rs ds x.2)):=by
 have hp:=hS.pl;have hn:=hS.nb;have hr:=hS.room;refine aav Tryz.func86 rfl (mc hS.blk mn) (A:=[]) (Ts:=[]) rfl λ w0=>?_;refine ae 10 [.own 1] λ n1=>aaj (Hp:=[]) (Tp:=[]) [] [] (tR (some ⟨S.bb,S.bo*9,none⟩) S.nb S.bc (m0 S) _ (RowL.src Cp (by decide) (GI hS.toSh).up) (by omega)) ?_;rintro _ ⟨A2,c3,T4⟩ ⟨rfl,hc5⟩;dsimp only at hc5;refine ae 7 [.own 1] λ _=>?_;obtain⟨bb,rfl,rfl,Xf⟩:=hc5.open (by rw[lx];omega);have hcap:S.nb <= c3:=by rw[lx] at Xf;exact Xf
 refine pS 0 (x:=(bb,.rows 9 c3 (kW (m0 S)) 90 (0,0)))<|ae 7 [.own 2] λ _=>aap<|aao (σ:=Nat × List Bod × HL) (λ ⟨i,bods,U_⟩=>⟨[(1,vP (n1+0) 0),(2,vP (n1+1) 0),(10,vI (S.nb:Int)),(11,vI (i:Int))],[(bb,.rows 9 c3 (kW bods) 90 (0,0)),((n1+1),.lit [vI 0,.slice none 0 0,vI 0,vI 0,vI 0,vI 0,.slice none 0 0,.slice none 0 0,vI 0,vI 0,vI 0,vI 0,vI 0,vI 0,vI 0,vI 0] 31 (0,0)),((n1+0),.lit [vI S.players,vS bb 0 S.nb c3,vI S.box.x0,vI S.box.y0,vI S.box.x1,vI S.box.y1,.slice S.rA S.rn S.rc,.slice S.dA S.dn S.dc,vI S.fog,vI S.g.x,vI S.g.y,vI S.push,vI S.drag,vI S.rest,vI S.rounds,vI S.fuel] 31 (0,0))],[U_],i <= S.nb /\ bods.length=S.nb /\ (∀k,k<S.nb -> ∃A c,bods.getD k dB=(S.body k).at A c) /\ (∀k,k<i -> ShH (bods.getD k dB).sh U_) /\ ∀k,i <= k -> k<S.nb -> bods.getD k dB=S.body k,S.nb-i⟩) (0,m0 S,[]) [0,1,2] [0] (⟨Nat.zero_le _,lx S,λ k hk=>⟨_,_,nS hk⟩,λ k hk=>absurd hk (Nat.not_lt_zero _),λ k _ hk=>nS hk⟩) ?_;rintro⟨i,bods,U_⟩ ⟨Ve,VB,adf,ZH,aeM⟩ mt7;refine ae 6 [] λ _=>aam ((i:Int)<(S.nb:Int)) 12 (λ h8=>?_) λ h8=>?_
 ·refine ae 7 [] λ _=>?_;have ab3:(RowL oC 29 F (bods.getD i dB).sh.A (bods.getD i dB).sh.poly.length (bods.getD i dB).sh.poly /\ (bods.getD i dB).sh.poly.length <= 1000000) /\ ((bods.getD i dB).sh.poly=[] \/ 3 <= (bods.getD i dB).sh.poly.length):=by rw[aeM i (Nat.le_refl _) (by omega)];exact hS.shp i (by omega)
  have W8:=ab3.1.1;have alk:(bods.getD i dB).sh.poly.length <= 100000000:=by have:=ab3.1.2;omega
  refine ae 4 [] λ _=>aal [14] []<|av [] [0,2,3,5,1,4,6,7,8,9] [.own 2,.own 2,.ix i,.row 0 i 1] [((0+i*9)+1)=i*9+1 /\ i<c3,(i:Int)=((i:Nat):Int) /\ i<S.nb]<|aae 10 (aaf [] (Hp:=[]) (Tp:=[]) [] [] (vt ((bods.getD i dB).sh.A) ((bods.getD i dB).sh.poly.length) ((bods.getD i dB).sh.cap) ((bods.getD i dB).sh.poly) _ (RowL.src JC (by decide) W8.up) alk) ?_);rintro _ ⟨A9,YG,Tt⟩ ⟨rfl,ah3⟩;dsimp only at ah3;refine av [] [11,12,13] [.ix i] [(i:Int)=((i:Nat):Int) /\ i<S.nb]<|aae 14 (gS [] [.row 0 i 1] [((0+i*9)+1)=i*9+1 /\ i<c3] λ _=>?_);refine aad<|ah 6 [.nw] [aI ((i:Int)+1)] λ _=>aah 0 (congrArg (λ v_=>(.rows 9 c3 v_ 90 (0,0):Blk)) (show (dG (kW bods) i 1 (.slice A9 ((bods.getD i dB).sh.poly.length) YG))=(kW (bods.set i ((bods.getD i dB).at A9 YG))) from (ME (by omega) A9 YG)))<|tw [1,0]<|wb ?_;refine mt7 (i+1,(bods.set i ((bods.getD i dB).at A9 YG)),U_++Tt) [0,1,2] [0] ?_
  try dsimp only
  refine⟨⟨by omega,by rw[List.length_set];exact VB,λ t ht=>?_,λ t ht=>?_,λ t VH R_=>?_⟩,by omega⟩
  ·rcases Decidable.em (i=t) with rfl|h_
   ·rw[gy (by omega),aeM i (Nat.le_refl _) ht];exact⟨_,_,rfl⟩
   ·rw[ga h_];exact adf t ht
  ·rcases Decidable.em (i=t) with rfl|h_
   ·rw[gy (by omega)];exact ShH.right (GJ ab3.2 ab3.1.2 ah3)
   ·rw[ga h_];exact(ZH t (by omega)).left
  ·rw[ga (by omega)];exact aeM t (by omega) R_
 ·refine ae 10 [.own 2] λ _=>aaj (Hp:=[]) (Tp:=[]) [] [] (vu S.rA S.rn S.rc rs _ (RowL.src N5 (by decide) hM.rooms.up) (by omega)) ?_;rintro _ ⟨A13,c14,Vh⟩ ⟨rfl,ah2⟩;dsimp only at ah2;refine ae 8 [.own 2,.own 2] λ _=>aaj (Hp:=[]) (Tp:=[]) [] [] (tW S.dA S.dn S.dc ds _ (RowL.src N6 (by decide) hM.doors.up) (by omega)) ?_;rintro _ ⟨A17,Zf,XM⟩ ⟨rfl,acr⟩;dsimp only at acr;refine ae 10 (ow 2 17++ow 1 16) λ _=>aaq (ow 1 16) [0] [0,1,2] (v:=.agg #[vI S.players,vS bb 0 S.nb c3,vI S.box.x0,vI S.box.y0,vI S.box.x1,vI S.box.y1,.slice A13 S.rn c14,.slice A17 S.dn Zf,vI S.fog,vI S.g.x,vI S.g.y,vI S.push,vI S.drag,vI S.rest,vI S.rounds,vI S.fuel]) (H':=(ap [(bb,.rows 9 c3 (kW bods) 90 (0,0))] [XM,Vh,U_])) ?_;have ei:i=S.nb:=by omega
  subst ei;have aaD:∀k,bods.getD (0+k) dB=bods.getD k dB:=λ k=>by rw[Nat.zero_add]
  refine⟨((⟨S.players,bb,0,S.nb,c3,c3,bods,S.box,A13,S.rn,c14,A17,S.dn,Zf,S.fog,S.g,S.push,S.drag,S.rest,S.rounds,S.fuel⟩:Setup),[(bb,.rows 9 c3 (kW bods) 90 (0,0))]++(XM++Vh++U_)),(by simp[ap]),rfl,⟨⟨rfl,rfl,rfl,rfl,rfl,rfl,rfl,rfl,rfl,rfl,rfl,rfl⟩,λ k hk=>?_,rfl,VB⟩,λ F2 hF=>⟨⟨⟨hp,by omega⟩,hF _ (by simp),(by show 0+S.nb <= c3;omega),λ k hk=>?_⟩,?_,?_⟩⟩
  ·obtain⟨A,c,h⟩:=adf k hk;exact⟨A,c,by show bods.getD (0+k) dB=_;rw[aaD];exact h⟩
  ·show ShIn F2 (bods.getD (0+k) dB).sh;rw[aaD];exact ZH k hk F2 λ x hx=>hF x (by simp[hx])
  ·have h_:=ah2.rowL (F:=F2) λ x hx=>hF x (by simp[hx]);rw[hM.rooms.len] at h_;exact h_
  ·have h_:=acr.rowL (F:=F2) λ x hx=>hF x (by simp[hx]);rw[hM.doors.len] at h_;exact h_
theorem CW{S:Setup}(h:SetN S){i:Nat}(hi:i<S.nb):dG (dG (dG (dG (dG (dG (aB (aH S i)) ((af S i).toNat+0) 0 (vI (S.body i).mot.px)) ((af S i).toNat+1) 0 (vI (S.body i).mot.py)) ((af S i).toNat+2) 0 (vI (S.body i).mot.vx)) ((af S i).toNat+3) 0 (vI (S.body i).mot.vy)) ((af S i).toNat+4) 0 (vI (S.body i).a)) ((af S i).toNat+5) 0 (vI (S.body i).b)=aB (aH S (i+1)):=by
 have hb:=qT h hi;rw[<- GD h hi];rw[show (af S i+1).toNat=(af S i).toNat+1 by omega,show (af S i+2).toNat=(af S i).toNat+2 by omega,show (af S i+3).toNat=(af S i).toNat+3 by omega,show (af S i+4).toNat=(af S i).toNat+4 by omega,show (af S i+5).toNat=(af S i).toNat+5 by omega];rfl
theorem GK(S:Setup)(F:HL)(hS:SetCl F S):Sp Tryz.prog 88 #[Setup.v S] (ap [] []) F (λ u H'=>∃q,H'=ap [(q,.rows 1 (sizeOf S).toNat (aB (aH S S.nb)) 3 (0,0))] [] /\ u=vS q 0 (sizeOf S).toNat (sizeOf S).toNat):=by
 have hp:=hS.pl;have hn:=hS.nb;have hr:=hS.room;have hz:=GC hS.toSetN;refine aav Tryz.func88 rfl (mc hS.blk mn) (A:=[]) (Ts:=[]) rfl λ w0=>?_;refine ae 13 [.own 0] λ n1=>aam (S.players<0) 10 (λ h2=>?_) λ h2=>?_
 ·(exfalso;omega)
 ·refine ae 6 [.own 0] λ _=>aam (S.players>1048576) 14 (λ h3=>?_) λ h3=>?_
  ·(exfalso;omega)
  ·refine ae 6 (ow 0 16) λ _=>aai (FM S _ hS.toSetN)<|ah 14 [.mk ((sizeOf S).toNat) ((sizeOf S).toNat),.own 1] [sizeOf S=(((sizeOf S).toNat:Nat):Int) /\ sizeOf S=(((sizeOf S).toNat:Nat):Int) /\ (sizeOf S).toNat <= (sizeOf S).toNat /\ 8*((sizeOf S).toNat) <= 140737488355328 /\ 1=1 /\ (sizeOf S).toNat <= 9223372036854775807] λ n4=>aah 0 (congrArg (λ v_=>(.rows 1 ((sizeOf S).toNat) v_ 3 (0,0):Blk)) (show (sm [vI 0])=(aB (aH S 0)) from (by rw[wy (sizeOf S).toNat] <;> rfl)))<|aao (σ:=Nat) (λ i=>⟨[(1,vP (n1+0) 0),(3,vS (n4+0) 0 ((sizeOf S).toNat) ((sizeOf S).toNat)),(19,vS S.bb (S.bo*9) S.nb S.bc),(20,vI (S.nb:Int)),(21,vI (i:Int))],[((n4+0),.rows 1 ((sizeOf S).toNat) (aB (aH S i)) 3 (0,0)),((n1+0),.lit (Setup.l S) 31 (0,0))],[],i <= S.nb,S.nb-i⟩) 0 [0,1] [] (Nat.zero_le _) ?_;rintro i hI5 mt6;refine ae 6 [] λ _=>aam ((i:Int)<(S.nb:Int)) 22 (λ h7=>?_) λ h7=>?_
   ·have hbi:=qT hS.toSetN (i:=i) (by omega);refine ah 20 ([.ix i,.rorow 0 (S.bo+i) 0,.rorow 0 (S.bo+i) 1,.rorow 0 (S.bo+i) 2,.rorow 0 (S.bo+i) 3,.rorow 0 (S.bo+i) 4,.rorow 0 (S.bo+i) 5,.rorow 0 (S.bo+i) 6,.rorow 0 (S.bo+i) 7,.rorow 0 (S.bo+i) 8]++ow 0 9++ow 2 16) [((S.bo*9+i*9)+8)=(S.bo+i)*9+8 /\ (S.bo+i)<S.bR,((S.bo*9+i*9)+7)=(S.bo+i)*9+7 /\ (S.bo+i)<S.bR,((S.bo*9+i*9)+6)=(S.bo+i)*9+6 /\ (S.bo+i)<S.bR,((S.bo*9+i*9)+5)=(S.bo+i)*9+5 /\ (S.bo+i)<S.bR,((S.bo*9+i*9)+4)=(S.bo+i)*9+4 /\ (S.bo+i)<S.bR,((S.bo*9+i*9)+3)=(S.bo+i)*9+3 /\ (S.bo+i)<S.bR,((S.bo*9+i*9)+2)=(S.bo+i)*9+2 /\ (S.bo+i)<S.bR,((S.bo*9+i*9)+1)=(S.bo+i)*9+1 /\ (S.bo+i)<S.bR,(S.bo*9+i*9)=(S.bo+i)*9+0 /\ (S.bo+i)<S.bR,(i:Int)=((i:Nat):Int) /\ i<S.nb] λ n8=>aai (dj S (i:Int) _ hS.toSetN) ?_;have hb9:=di hS.toSetN (i:Int);refine ah 5 [.sl ((af S (i:Int)).toNat) ((sizeOf S).toNat) false] [af S (i:Int)=(((af S (i:Int)).toNat:Nat):Int) /\ (sizeOf S).toNat=(sizeOf S).toNat /\ (af S (i:Int)).toNat <= (sizeOf S).toNat /\ (sizeOf S).toNat <= (sizeOf S).toNat /\ (sizeOf S).toNat≠(af S (i:Int)).toNat] λ _=>aal [11,13] [0,2]<|av [0,2] [0,1,2,6,3,7,4,8,5,9,10] [.own 0,.ro 0,.ix 0] [0=((0:Nat):Int) /\ 0<((sizeOf S).toNat-(af S (i:Int)).toNat)]<|aae 11 (gS [0,2] [.row 1 (((af S (i:Int)).toNat)+0) 0] [((0+((af S (i:Int)).toNat)*1)+0*1)=(((af S (i:Int)).toNat)+0)*1+0 /\ (((af S (i:Int)).toNat)+0)<((sizeOf S).toNat)] λ _=>?_);refine av [0,2] [12] [.ix 1] [1=((1:Nat):Int) /\ 1<((sizeOf S).toNat-(af S (i:Int)).toNat)]<|aae 13 (gS [0,2] [.row 1 (((af S (i:Int)).toNat)+1) 0] [((0+((af S (i:Int)).toNat)*1)+1*1)=(((af S (i:Int)).toNat)+1)*1+0 /\ (((af S (i:Int)).toNat)+1)<((sizeOf S).toNat)] λ _=>?_);refine aad<|ae 2 [] λ _=>aal [11,13] [0,2]<|av [0,2] [0,1,2,6,3,7,4,8,5,9,10] [.own 0,.ro 0,.ix 2] [2=((2:Nat):Int) /\ 2<((sizeOf S).toNat-(af S (i:Int)).toNat)]<|aae 11 (gS [0,2] [.row 1 (((af S (i:Int)).toNat)+2) 0] [((0+((af S (i:Int)).toNat)*1)+2*1)=(((af S (i:Int)).toNat)+2)*1+0 /\ (((af S (i:Int)).toNat)+2)<((sizeOf S).toNat)] λ _=>?_);refine av [0,2] [12] [.ix 3] [3=((3:Nat):Int) /\ 3<((sizeOf S).toNat-(af S (i:Int)).toNat)]<|aae 13 (gS [0,2] [.row 1 (((af S (i:Int)).toNat)+3) 0] [((0+((af S (i:Int)).toNat)*1)+3*1)=(((af S (i:Int)).toNat)+3)*1+0 /\ (((af S (i:Int)).toNat)+3)<((sizeOf S).toNat)] λ _=>?_);refine aad<|ae 1 [] λ _=>aal [7,9] [0,2]<|av [0,2] [0,1,2,4,3,5,6] [.own 0,.ro 0,.ix 4] [4=((4:Nat):Int) /\ 4<((sizeOf S).toNat-(af S (i:Int)).toNat)]<|aae 7 (gS [0,2] [.row 1 (((af S (i:Int)).toNat)+4) 0] [((0+((af S (i:Int)).toNat)*1)+4*1)=(((af S (i:Int)).toNat)+4)*1+0 /\ (((af S (i:Int)).toNat)+4)<((sizeOf S).toNat)] λ _=>?_);refine av [0,2] [8] [.ix 5] [5=((5:Nat):Int) /\ 5<((sizeOf S).toNat-(af S (i:Int)).toNat)]<|aae 9 (gS [0,2] [.row 1 (((af S (i:Int)).toNat)+5) 0] [((0+((af S (i:Int)).toNat)*1)+5*1)=(((af S (i:Int)).toNat)+5)*1+0 /\ (((af S (i:Int)).toNat)+5)<((sizeOf S).toNat)] λ _=>?_);refine aad<|ah 6 [.nw] [aI ((i:Int)+1)] λ _=>aah 1 (congrArg (λ v_=>(.rows 1 ((sizeOf S).toNat) v_ 3 (0,0):Blk)) (show (dG (dG (dG (dG (dG (dG (aB (aH S i)) (((af S (i:Int)).toNat)+0) 0 (vI ((S.bods.getD (S.bo+i) dB).mot.px))) (((af S (i:Int)).toNat)+1) 0 (vI ((S.bods.getD (S.bo+i) dB).mot.py))) (((af S (i:Int)).toNat)+2) 0 (vI ((S.bods.getD (S.bo+i) dB).mot.vx))) (((af S (i:Int)).toNat)+3) 0 (vI ((S.bods.getD (S.bo+i) dB).mot.vy))) (((af S (i:Int)).toNat)+4) 0 (vI ((S.bods.getD (S.bo+i) dB).a))) (((af S (i:Int)).toNat)+5) 0 (vI ((S.bods.getD (S.bo+i) dB).b)))=(aB (aH S (i+1))) from (by rw[<- CW hS.toSetN (i:=i) (by omega)] <;> kernel_rfl))) ?_;refine mt6 (i+1) [1,2] [] ?_
    try dsimp only
    exact⟨by omega,by omega⟩
   ·refine ae 12 [] λ _=>aaq [] [0] [] (v:=vS (n4+0) 0 ((sizeOf S).toNat) ((sizeOf S).toNat)) (H':=[((n4+0),.rows 1 ((sizeOf S).toNat) (aB (aH S i)) 3 (0,0))]) ?_;have ei:i=S.nb:=by omega
    subst ei;exact⟨_,rfl,rfl⟩
abbrev bP(S:Setup)(bp mb:Nat):List Value:=[vI S.players,vS S.bb (S.bo*9) S.nb S.bc,vI S.box.x0,vI S.box.y0,vI S.box.x1,vI S.box.y1,.slice S.rA S.rn S.rc,.slice S.dA S.dn S.dc,vI S.fog,vI S.g.x,vI S.g.y,vI S.push,vI S.drag,vI S.rest,vI S.rounds,vI S.fuel,vP bp 0,vP mb 0]
inductive GameH(rs:List Bx)(ds:List Dr)(bp gb:Nat)(S:Setup)(M:MemS)(k:Nat):HL -> Prop
 | mk (mb:Nat) (T U:HL) (hM:MemH mb M k T) (hU:se S rs ds U):GameH rs ds bp gb S M k (ap [(gb,.lit (bP S bp mb) 121 (0,0))] [T,U])
theorem JM(q:Nat)(cs:List Int)(n k cap:Nat)(F:HL)(hn:cs.length=n)(hq:(q,.rows 1 n (aB cs) 3 (0,0))∈F)(hc:n <= 1000000)(hk:k <= 100000000)(hcap:n <= cap):Sp Tryz.prog 87 #[vS q 0 n cap] (ap [] []) F (λ u H'=>∃x:Nat × HL,H'=ap [] [x.2] /\ (u=vP x.1 0 /\ MemH x.1 ⟨cs,[],0⟩ k x.2)):=by
 subst hn;exact My q cs k cap F hq hc hk hcap
theorem qk(S:Setup)(rs:List Bx)(ds:List Dr)(bp:Nat)(F:HL)(hS:SetCl F S)(hM:MapIn F S rs ds)(h1:1 <= S.nb)(TW:S.rn <= 1000000)(VQ:S.dn <= 1000000)(S4:(sizeOf S).toNat <= 1000000)(hv:lU S rs ds=0)(k:Nat)(hk:k <= 100000000):Sp Tryz.prog 60 #[Setup.v S,vP bp 0] (ap [] []) F (λ u H'=>∃x:Nat × Setup × HL,H'=ap [] [x.2.2] /\ (u=.tuple #[vP x.1 0,vI 0] /\ SetEq S x.2.1 /\ GameH rs ds bp x.1 x.2.1 ⟨aH S S.nb,[],0⟩ k x.2.2)):=by
 refine aav Tryz.func60 rfl mn (A:=[]) (Ts:=[]) rfl λ w0=>?_;refine ae 11 (ow 0 16) λ n1=>aai (MD S rs ds _ hS.up.toSh hM.up)<|ae 9 [] λ _=>bL 10 (nt (decide_eq_true hv))<|ae 4 [] λ _=>aal [] []<|ag [] [0,2,3] (ow 0 32)<|aae 1 (aaf [] (Hp:=[]) (Tp:=[]) [] [] (CV S rs ds _ hS.up hM.up h1 TW VQ) ?_);rintro _ ⟨S2,U3⟩ ⟨rfl,he4,hU5⟩;dsimp only at he4 hU5;refine aae 4 (aaf [] (Hp:=[]) (Tp:=[]) [] [] (GK S _ hS.up) ?_);rintro _ q6 rfl;refine aae 5 (aaf [] (Hp:=[]) (Tp:=[]) [] [] (JM q6 (aH S S.nb) ((sizeOf S).toNat) k ((sizeOf S).toNat) _ (gx _ _) (az 0) S4 hk (Nat.le_refl _)) ?_);rintro _ ⟨m7,T8⟩ ⟨rfl,YW⟩;dsimp only at YW;refine ag [] [6] []<|aae 7 (aag [] [] λ VW=>?_);refine ag [] [8,9] []<|aad<|ae 1 [] λ _=>aaq [] [0] [0,1] (v:=.tuple #[vP (VW+0) 0,vI 0]) (H':=(ap [((VW+0),.lit [vI S2.players,vS S2.bb (S2.bo*9) S2.nb S2.bc,vI S2.box.x0,vI S2.box.y0,vI S2.box.x1,vI S2.box.y1,.slice S2.rA S2.rn S2.rc,.slice S2.dA S2.dn S2.dc,vI S2.fog,vI S2.g.x,vI S2.g.y,vI S2.push,vI S2.drag,vI S2.rest,vI S2.rounds,vI S2.fuel,vP bp 0,vP m7 0] 121 (0,0))] [T8,U3])) ?_;exact⟨((VW+0),S2,ap [((VW+0),.lit (bP S2 bp m7) 121 (0,0))] [T8,U3]),by simp[ap],rfl,he4,.mk _ _ _ YW hU5⟩
theorem JN(S:Setup)(bp gb mb:Nat)(F:HL)(hg:(gb,.lit (bP S bp mb) 121 (0,0))∈F):Sp Tryz.prog 55 #[vP gb 0] [] F (λ u H'=>u=vP mb 0 /\ H'=[]):=by
 refine aav Tryz.func55 rfl (mc hg mn) (A:=[]) (Ts:=[]) rfl λ w0=>?_;refine ae 14 [.ro 0] λ _=>?_;exact aaq [] [] [] ⟨rfl,rfl⟩
def Sr(cs:List Int):Prop:=(cs.getD 1 0=0 /\ cs.getD 2 0=0 /\ cs.getD 3 0=0 /\ cs.getD 4 0=0 /\ cs.getD 5 0=0 /\ cs.getD 6 0=0 /\ cs.getD 7 0=0 /\ cs.getD 8 0=0 /\ cs.getD 9 0=0 /\ cs.getD 10 0=0) /\ cs.getD 0 0 >= 0 /\ cs.getD 0 0 <= 6000
instance (cs:List Int):Decidable (Sr cs):=inferInstanceAs (Decidable (_ /\ _))
theorem MemH.len2{mb:Nat}{M:MemS}{k:Nat}{T:HL}(h:MemH mb M k T):M.lg.length+k <= 100000000:=by
 cases h with
 | mk cb A cap Hl hs hc hl=>exact hl
def gz(na nb:Nat)(xs ys:List Int):Prop:=na=nb /\ ∀k,k<na -> xs.getD k 0=ys.getD k 0
instance (na nb:Nat) (xs ys:List Int):Decidable (gz na nb xs ys):=inferInstanceAs (Decidable (_ /\ _))
def fV(x:Inp):Prop:=(¬ x.dx < -1 /\ ¬ x.dx>1) /\ (¬ x.dy < -1 /\ ¬ x.dy>1) /\ ¬ x.act<0 /\ ¬ x.act>3
instance (x:Inp):Decidable (fV x):=inferInstanceAs (Decidable (_ /\ _))
def cI(pl:Int)(n:Nat)(xs:List Inp)(now:Int):Int:=if (n:Int)=pl then (if ∀k,k<n -> fV (xs.getD k dI) then (if now >= 6000 then 2 else 0) else 1) else 17
theorem Al(mb cb n:Nat)(A:Option Addr)(m cap:Nat)(base:Int)(F:HL)(hm:(mb,.lit [vS cb 0 n n,.slice A m cap,vI base] 162 (0,0))∈F):Sp Tryz.prog 59 #[vP mb 0] [] F (λ u H'=>u=vI (bz (base+(m:Int))) /\ H'=[]):=by
 refine aav Tryz.func59 rfl (mc hm mn) (A:=[]) (Ts:=[]) rfl λ w0=>?_;refine ae 6 [] λ _=>aal [] []<|ag [] [0,4,1,5,2,6,3,7,8,9,10] [.ro 0,.ro 0]<|aad<|ae 1 [] λ _=>?_;exact aaq [] [] [] ⟨rfl,rfl⟩
theorem Am{mb:Nat}{M:MemS}{k:Nat}{T F:HL}(h:MemH mb M k T)(hs:∀x∈T,x∈F):Sp Tryz.prog 59 #[vP mb 0] [] F (λ u H'=>u=vI (bz (M.base+(M.lg.length:Int))) /\ H'=[]):=by
 cases h with
 | mk cb A cap Hl VX hc hl=>exact Al mb cb M.cs.length A M.lg.length cap M.base F (hs _ (by simp))
theorem t6(S:Setup)(bp gb mb:Nat)(M:MemS)(k:Nat)(T F:HL)(hg:(gb,.lit (bP S bp mb) 121 (0,0))∈F)(hM:MemH mb M k T)(hT:∀x∈T,x∈F):Sp Tryz.prog 52 #[vP gb 0] [] F (λ u H'=>u=vI (M.get 0) /\ H'=[]):=by
 refine aav Tryz.func52 rfl (mc hg mn) (A:=[]) (Ts:=[]) rfl λ w0=>?_;refine ae 11 [.ro 0] λ _=>aai (aD 0 hM (λ x hx=>aq (hT x hx)))<|ae 3 [] λ _=>?_;exact aaq [] [] [] ⟨rfl,rfl⟩
theorem CX(S:Setup)(bp gb mb:Nat)(M:MemS)(k:Nat)(A:Option Addr)(n cap:Nat)(xs:List Inp)(T F:HL)(hg:(gb,.lit (bP S bp mb) 121 (0,0))∈F)(hM:MemH mb M k T)(hT:∀x∈T,x∈F)(hl:RowL cS 40 F A n xs)(hn:n <= 1000000):Sp Tryz.prog 80 #[vP gb 0,.slice A n cap] [] F (λ u H'=>u=vI (cI S.players n xs (M.get 0)) /\ H'=[]):=by
 refine aav Tryz.func80 rfl (mc hg mn) (A:=[]) (Ts:=[]) rfl λ w0=>?_;refine ae 18 [.ro 0] λ _=>aan ((n:Int)=S.players) 14 (λ h1=>?_) λ h1=>?_
 ·refine ae 12 [] λ _=>aao (σ:=Nat) (λ k_=>⟨[(0,vP gb 0),(15,.slice A n cap),(16,vI (n:Int)),(17,vI (k_:Int))],[],[],k_ <= n /\ ∀t,t<k_ -> fV (xs.getD t dI),n-k_⟩) 0 [] [] (⟨Nat.zero_le _,λ t ht=>absurd ht (Nat.not_lt_zero _)⟩) ?_;rintro k_ ⟨hkl,iD⟩ Th;refine ae 6 [] λ _=>aam ((k_:Int)<(n:Int)) 18 (λ h4=>?_) λ h4=>?_
  ·refine ae 7 [] λ _=>?_;obtain⟨qx5,r_,UZ,fx5,Xx,TH,TK,W_,Ub⟩:=hl.at (k:=k_) (by omega);refine aC 15 (congrArg (λ v_=>(.slice v_ n cap:Value)) TH)<|aar (λ _=>(mc hg (mc TK mn)))<|ah 2 [.ix k_,.rorow 1 (r_+k_) 0,.rorow 1 (r_+k_) 1,.rorow 1 (r_+k_) 2] [((r_*3+k_*3)+2)=(r_+k_)*3+2 /\ (r_+k_)<UZ,((r_*3+k_*3)+1)=(r_+k_)*3+1 /\ (r_+k_)<UZ,(r_*3+k_*3)=(r_+k_)*3+0 /\ (r_+k_)<UZ,(k_:Int)=((k_:Nat):Int) /\ k_<n] λ _=>aC 20 (congrArg (λ v_=>(.agg #[vI v_.dx,vI v_.dy,vI v_.act]:Value)) Ub)<|ae 10 (aab 4) λ n6=>aam ((xs.getD k_ dI).dx<(-1)) 24 (λ h7=>?_) λ h7=>?_
   ·refine ae 32 [] λ _=>aaq [] [] [] (v:=vI 1) (H':=[]) ?_;exact⟨by rw[cI,if_pos (by omega),if_neg (λ h_=>by have R_:=h_ k_ (by omega);unfold fV at R_;omega)],rfl⟩
   ·refine ae 5 [.own 0] λ _=>aam ((xs.getD k_ dI).dx>1) 29 (λ h8=>?_) λ h8=>?_
    ·refine ae 27 [] λ _=>aaq [] [] [] (v:=vI 1) (H':=[]) ?_;exact⟨by rw[cI,if_pos (by omega),if_neg (λ h_=>by have R_:=h_ k_ (by omega);unfold fV at R_;omega)],rfl⟩
    ·refine ae 5 [.own 0] λ _=>aam ((xs.getD k_ dI).dy<(-1)) 34 (λ h9=>?_) λ h9=>?_
     ·refine ae 22 [] λ _=>aaq [] [] [] (v:=vI 1) (H':=[]) ?_;exact⟨by rw[cI,if_pos (by omega),if_neg (λ h_=>by have R_:=h_ k_ (by omega);unfold fV at R_;omega)],rfl⟩
     ·refine ae 5 [.own 0] λ _=>aam ((xs.getD k_ dI).dy>1) 39 (λ VU=>?_) λ VU=>?_
      ·refine ae 17 [] λ _=>aaq [] [] [] (v:=vI 1) (H':=[]) ?_;exact⟨by rw[cI,if_pos (by omega),if_neg (λ h_=>by have R_:=h_ k_ (by omega);unfold fV at R_;omega)],rfl⟩
      ·refine ae 5 [.own 0] λ _=>aam ((xs.getD k_ dI).act<0) 44 (λ Vd=>?_) λ Vd=>?_
       ·refine ae 12 [] λ _=>aaq [] [] [] (v:=vI 1) (H':=[]) ?_;exact⟨by rw[cI,if_pos (by omega),if_neg (λ h_=>by have R_:=h_ k_ (by omega);unfold fV at R_;omega)],rfl⟩
       ·refine ae 6 [.own 0] λ _=>aam ((xs.getD k_ dI).act>3) 48 (λ Uq=>?_) λ Uq=>?_
        ·refine ae 6 [] λ _=>aaq [] [] [] (v:=vI 1) (H':=[]) ?_;exact⟨by rw[cI,if_pos (by omega),if_neg (λ h_=>by have R_:=h_ k_ (by omega);unfold fV at R_;omega)],rfl⟩
        ·refine ah 8 [.nw] [aI ((k_:Int)+1)] λ _=>aC 15 (congrArg (λ v_=>(.slice v_ n cap:Value)) TH.symm) ?_;refine Th (k_+1) [] [] ?_
         try dsimp only
         refine⟨⟨by omega,λ t ht=>?_⟩,by omega⟩;rcases Nat.lt_or_ge t k_ with h_|h_
         ·exact iD t h_
         ·obtain rfl:t=k_:=by omega
          exact⟨⟨h7,h8⟩,⟨h9,VU⟩,Vd,Uq⟩
  ·refine ae 10 [] λ _=>aai (t6 S bp gb mb M k T _ (aq hg) hM (λ x hx=>aq (hT x hx)))<|ae 3 [] λ _=>aam (M.get 0 >= 6000) 52 (λ Vc=>?_) λ Vc=>?_
   ·refine ae 6 [] λ _=>aaq [] [] [] (v:=vI 2) (H':=[]) ?_;exact⟨by rw[cI,if_pos (by omega),if_pos (λ t ht=>iD t (by omega)),if_pos (by omega)],rfl⟩
   ·refine ae 8 [] λ _=>aaq [] [] [] (v:=vI 0) (H':=[]) ?_;exact⟨by rw[cI,if_pos (by omega),if_pos (λ t ht=>iD t (by omega)),if_neg (by omega)],rfl⟩
 ·refine ae 6 [] λ _=>aaq [] [] [] (v:=vI 17) (H':=[]) ?_;exact⟨by rw[cI,if_neg (by omega)],rfl⟩
theorem GL(gb ib io ni ic:Nat)(F:HL):Sp Tryz.prog 83 #[vP gb 0,vS ib (io*3) ni ic] (ap [] []) F (λ u H'=>∃n:Nat,H'=ap [((n+1),.lit [vS ib (io*3) ni ic] 38 (0,0)),((n+0),.lit [vP gb 0] 97 (0,0))] [] /\ u=.func (.func 105) #[] #[vP (n+0) 0,vP (n+1) 0]):=by
 refine aav Tryz.func83 rfl mn (A:=[]) (Ts:=[]) rfl λ w0=>?_;refine ae 13 [] λ n1=>aaq [] [0,1] [] (v:=.func (.func 105) #[] #[vP (n1+0) 0,vP (n1+1) 0]) (H':=(ap [((n1+1),.lit [vS ib (io*3) ni ic] 38 (0,0)),((n1+0),.lit [vP gb 0] 97 (0,0))] [])) ?_;exact⟨_,rfl,rfl⟩
end Go.Proofs.YtdppjkjbghbnjaaGreatDoor
