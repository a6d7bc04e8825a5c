import Derived.Test.YtghjbimijeinfaaGreatDoorV14
set_option maxHeartbeats 4000000
set_option maxRecDepth 100000
set_option linter.all false
namespace Go.Proofs.YtghjbimijeinfaaGreatDoor
open Go.RowKit
def Ls(xs:List Int):Int:=1+kv xs 0 % 3
def sE(xs:List Int):Int:=Ls xs+kv xs 3 / 3 % 3
def bN(xs:List Int)(i:Nat):Int:=kv xs (4+2*i)
def bM(xs:List Int)(i:Nat):Int:=kv xs (5+2*i)
def uX(xs:List Int)(i:Nat)(A:Option Addr)(c:Nat):Bod:=⟨⟨(cU (bN xs i)).1,(cU (bN xs i)).2,A,c⟩,⟨((((bN xs i) / 1000) % 13)-6)*900,((((bM xs i) / 50) % 11)-5)*800,((((bM xs i) / 550) % 9)-4)*300,((((bN xs i) / 13000) % 9)-4)*300,([1024,1024,512,2048,0]:List Int).getD (((bM xs i) / 5000) % 5).toNat 0⟩,(bM xs i) % 50,(bN xs i) % 7⟩
def yK(a b c:Nat)(i:Nat):Option Addr:=match i with|0=>some ⟨a,0,none⟩|1=>some ⟨b,0,none⟩|_=>some ⟨c,0,none⟩
def ke(i:Nat):Nat:=match i with|0=>0|1=>1|_=>2
def C2(a b c:Nat):Nat -> Nat -> Value:=λ i _=>.slice (yK a b c i) (ke i) (ke i)
theorem sF{F:HL}{A:Option Addr}{n:Nat}{xs:List Int}(h:ArgL F A n xs):1 <= Ls xs /\ Ls xs <= 3:=by
 have:=iz h 0;unfold Ls;omega
theorem o7{F:HL}{A:Option Addr}{n:Nat}{xs:List Int}(h:ArgL F A n xs):1 <= sE xs /\ sE xs <= 5 /\ Ls xs <= sE xs:=by
 have:=iz h 0;have:=iz h 3;unfold sE Ls;omega
theorem HX{xs rest:List Int}{n i:Nat}(h:i<n):(ks xs n++rest).getD i 0=kv xs i:=by
 rw[aaK,aa4 (by rw[nR];exact h),<- aaK,OH h]
theorem sG{α:Type}{l r:List α}{i:Nat}{d:α}(h:i<l.length):(l++r).getD i d=l.getD i d:=by
 rw[aaK,aa4 h,<- aaK]
theorem uY{α:Type}{l:List α}{x d:α}:(l++[x]).getD l.length d=x:=by simp
theorem ShH.left{s:Shp}{T X:HL}(h:ShH s T):ShH s (T++X):=λ F hF=>h F λ x hx=>hF x (aav _ hx)
theorem ShH.right{s:Shp}{T X:HL}(h:ShH s X):ShH s (T++X):=λ F hF=>h F λ x hx=>hF x (aau _ hx)
theorem Bn{F:HL}{a b c:Nat}(hb:(b,.rows 2 1 (bu nS (mZ 1)) 97 (0,0))∈F)(hc:(c,.rows 2 2 (bu nS (mZ 2)) 97 (0,0))∈F):∀i:Nat,RowL nS 97 F (yK a b c i) (ke i) (mZ i)
 | 0=>.zero _
 | 1=>RowL.whole (xs:=mZ 1) hb (aaS _)
 | _+2=>RowL.whole (xs:=mZ 2) hc (aaS _)
structure SetG(xs:List Int)(S:Setup)(T:HL):Prop where
 pl:S.players=Ls xs
 nb:(S.nb:Int)=sE xs
 bo:S.bo=0
 cap:S.nb <= S.bc
 room:S.bo+S.nb <= S.bR
 nums:S.box=⟨-12000,-9000,12000,9000⟩ /\ S.fog=4000+(kv xs 1 % 9)*1000 /\ S.g=⟨0,(-((kv xs 2 / 36) % 3))*40⟩ /\ S.push=((kv xs 1 / 9) % 5)*100 /\ S.drag=(kv xs 2 % 4)*100 /\ S.rest=((kv xs 2 / 4) % 3)*512 /\ S.rounds=1+(kv xs 2 / 12) % 3 /\ S.fuel=60
 bod:∀j,j<S.nb -> ∃A c,S.body j=uX xs j A c
 sin:∀F,(S.bb,.rows 9 S.bR (gz S.bods) 106 (0,0))∈F -> (∀x∈T,x∈F) -> SetIn F S
 maps:(S.rn=3 /\ S.dn=ke (kv xs 3 % 3).toNat) /\ ∀F,(∀x∈T,x∈F) -> MapIn F S yJ (mZ (kv xs 3 % 3).toNat)
theorem E9(A:Option Addr)(n cap:Nat)(xs:List Int)(F:HL)(hl:ArgL F A n xs)(hn:n <= 9223372036854775807):Sp Tryz.prog 7 #[.slice A n cap] (ap [] []) F (λ u H'=>∃x:Setup × HL,H'=ap [(x.1.bb,.rows 9 x.1.bR (gz x.1.bods) 106 (0,0))] [x.2] /\ (u=Setup.v x.1 /\ SetG xs x.1 x.2)):=by
 refine aas Tryz.func7 rfl mn (A:=[]) (Ts:=[]) rfl λ w0=>?_;refine ae 17 [] λ n1=>aao<|aan (σ:=Nat × Option Addr × Nat × HL) (λ ⟨i,A_,c_,T_⟩=>⟨[(0,.slice A n cap),(2,vP (n1+0) 0),(3,.slice A_ i c_),(4,vI (i:Int))],[((n1+0),.lit [vI 0,.slice none 0 0,vI 0,vI 0,vI 0,vI 0,.slice none 0 0,.slice none 0 0,vI 0,vI 0,vI 0,vI 0,vI 0,vI 0,vI 0,vI 0] 31 (0,0))],[T_],i <= 24 /\ SlIs dE 3 (ks xs i) A_ c_ T_ /\ bx A_,24-i⟩) (0,none,0,[]) [0] [0] (⟨aaU _,aar _ _,trivial⟩) ?_;rintro⟨i,A_,c_,T_⟩ ⟨Yu,IF,WV⟩ Uj;refine ae 7 [] λ _=>aal ((i:Int)<24) 12 (λ h4=>?_) λ h4=>?_
 ·refine ae 19 [] λ _=>aal ((i:Int)<(n:Int)) 18 (λ h5=>?_) λ h5=>?_
  ·refine ae 4 [] λ _=>?_;obtain⟨qx6,X2,Nx6,gx6,afF,aip,abr,aaG,agP,aaZ,aaB⟩:=hl.at (k:=i) (by omega);refine aS 19 (congrArg (λ v_=>(.slice v_ n cap:Value)) abr)<|RN.ro (λ _=>(mc aaG mn))<|ai 2 [.ix i,.rorow 0 (X2+i) 0] [(X2+i*1)=(X2+i)*1+0 /\ (X2+i)<Nx6,(i:Int)=((i:Nat):Int) /\ i<n] λ _=>aS 22 (congrArg (λ v_=>(v_:Value)) aaZ)<|aah (gF (xs.getD i 0) 1000000 (by decide) _) ?_;have hA7:=eC (n:=xs.getD i 0) aaB 1000000 (by decide);refine ae 7 [] λ n8=>eA jd (ks xs i) [aB (xs.getD i 0) 1000000] 0 0 (nR xs i).symm IF (by rw[nR];show i+1 <= 100000000;omega) ?_;rintro A9 XG SX ⟨agF,agh⟩;refine ai 9 [.nw] [bm ((i:Int)+1)] λ _=>?_;have Vr:=agh WV;refine Uj (i+1,A9,XG,SX) [1] [0] ?_
   try dsimp only
   refine⟨⟨by omega,?_,Vr⟩,by omega⟩;rw[C1,show kv xs i=_ from by unfold kv;rw[if_pos (by rw[hl.len];omega)]];exact agF
  ·refine ae 7 [] λ n14=>eA jd (ks xs i) [0] 0 0 (nR xs i).symm IF (by rw[nR];show i+1 <= 100000000;omega) ?_;rintro A15 c16 Vc ⟨Yj,age⟩;refine ai 9 [.nw] [bm ((i:Int)+1)] λ _=>?_;have Vr:=age WV;refine Uj (i+1,A15,c16,Vc) [1] [0] ?_
   try dsimp only
   refine⟨⟨by omega,?_,Vr⟩,by omega⟩;rw[C1,show kv xs i=_ from by unfold kv;rw[if_neg (by rw[hl.len];omega)]];exact Yj
 ·refine ae 7 [] λ _=>?_;have ei:i=24:=by omega
  subst ei;obtain⟨kb,rest,rfl,rfl,TK⟩:=IF.open0 WV (by decide) (by rw[nR];decide);have hcap:24 <= c_:=by rw[nR] at TK;exact TK
  refine qO 0 (x:=(kb,.rows 1 c_ (bu dE (ks xs 24++rest)) 3 (0,0))) ?_;have hk0:=iz hl 0;have XL:=iz hl 1;have hk2:=iz hl 2;have hk3:=iz hl 3;have hse:sE xs=1+kv xs 0 % 3+kv xs 3 / 3 % 3:=rfl;have hsc:=o7 hl;have Vu:=sF hl;refine aak [37] []<|aF [] [0,5,6,12,18,23,29,1,7,13,19,24,30,2,8,14,20,25,31,3,9,15,21,26,32,4,10,16,22,27,33,11,17,28,34,35] [.row 0 0 0,.row 0 1 0,.row 0 1 0,.row 0 2 0,.row 0 2 0,.row 0 2 0,.nw,.nw,.nw,.nw,.nw,.nw,.nw,.nw,.nw,.nw,.nw,.nw,.nw,.nw,.nw,.nw] [bm (1+(((kv xs 2) / 12) % 3)),bm ((((kv xs 2) / 4) % 3)*512),bm ((((kv xs 1) / 9) % 5)*100),bm (4000+(((kv xs 1) % 9)*1000)),0 <= (kv xs 2) / 12 /\ (0:Int)<3 /\ (kv xs 2) / 12 <= 9223372036854775807,0 <= (kv xs 2) / 4 /\ (0:Int)<3 /\ (kv xs 2) / 4 <= 9223372036854775807,bm (((kv xs 2) % 4)*100),0 <= (kv xs 1) / 9 /\ (0:Int)<5 /\ (kv xs 1) / 9 <= 9223372036854775807,bm (((kv xs 1) % 9)*1000),bm (1+((kv xs 0) % 3)),0 <= kv xs 2 /\ (0:Int)<12 /\ kv xs 2 <= 9223372036854775807,0 <= kv xs 2 /\ (0:Int)<4 /\ kv xs 2 <= 9223372036854775807,0 <= kv xs 2 /\ (0:Int)<4 /\ kv xs 2 <= 9223372036854775807,0 <= kv xs 1 /\ (0:Int)<9 /\ kv xs 1 <= 9223372036854775807,0 <= kv xs 1 /\ (0:Int)<9 /\ kv xs 1 <= 9223372036854775807,0 <= kv xs 0 /\ (0:Int)<3 /\ kv xs 0 <= 9223372036854775807,2=2*1+0 /\ 2<c_,2=2*1+0 /\ 2<c_,2=2*1+0 /\ 2<c_,1=1*1+0 /\ 1<c_,1=1*1+0 /\ 1<c_,0=0*1+0 /\ 0<c_]<|aae 36 (aag [] [] λ n20=>?_);refine aae 37 (aag [] (ow 0 16) λ _=>?_);refine aad<|ai 38 [.row 1 2 0,.nw,.nw,.nw,.nw,.own 0,.own 0,.own 1,.row 6 3 0,.nw] [0 <= kv xs 3 /\ (0:Int)<3 /\ kv xs 3 <= 9223372036854775807,3=3*1+0 /\ 3<c_,bm ((-(((kv xs 2) / 36) % 3))*40),-9223372036854775807 <= ((kv xs 2) / 36) % 3 /\ ((kv xs 2) / 36) % 3 <= 9223372036854775808,0 <= (kv xs 2) / 36 /\ (0:Int)<3 /\ (kv xs 2) / 36 <= 9223372036854775807,0 <= kv xs 2 /\ (0:Int)<36 /\ kv xs 2 <= 9223372036854775807,2=2*1+0 /\ 2<c_] λ n21=>aaj 0 (.rows 1 3 (C2 (n21+1) (n21+2) (n21+3)) 27 (0,0))<|ai 13 [.ix (((kv xs 3) % 3).toNat),.row 0 (((kv xs 3) % 3).toNat) 0,.own 5] [(0+(((kv xs 3) % 3).toNat)*1)=(((kv xs 3) % 3).toNat)*1+0 /\ (((kv xs 3) % 3).toNat)<3,(kv xs 3) % 3=((((kv xs 3) % 3).toNat:Nat):Int) /\ ((kv xs 3) % 3).toNat<3] λ _=>aao<|aao<|aan (σ:=Nat × List Bod × Option Addr × Nat × HL × HL) (λ ⟨j,bods,B_,d_,V_,U_⟩=>⟨[(2,vP (n1+0) 0),(3,vS kb 0 24 c_),(6,vP (n20+0) 0),(7,vI (j:Int))],[((n21+4),.rows 1 3 (C2 (n21+1) (n21+2) (n21+3)) 27 (0,0)),((n21+3),.lit [vI 0,vI 2,vI 1,vI 2] 97 (0,0)),((n21+2),.lit [vI 0,vI 1] 97 (0,0)),((n21+1),.lit [] 97 (0,0)),((n21+0),.lit [vI (-12000),vI (-9000),vI (-1),vI 9000,vI 0,vI 0,vI 12000,vI 9000,vI 0,vI (-9000),vI 12000,vI (-1)] 25 (0,0)),((n20+0),.lit [vI (1+((kv xs 0) % 3)),.slice B_ j d_,vI (-12000),vI (-9000),vI 12000,vI 9000,vS (n21+0) 0 3 3,.slice (yK (n21+1) (n21+2) (n21+3) (((kv xs 3) % 3).toNat)) (ke (((kv xs 3) % 3).toNat)) (ke (((kv xs 3) % 3).toNat)),vI (4000+(((kv xs 1) % 9)*1000)),vI 0,vI ((-(((kv xs 2) / 36) % 3))*40),vI ((((kv xs 1) / 9) % 5)*100),vI (((kv xs 2) % 4)*100),vI ((((kv xs 2) / 4) % 3)*512),vI (1+(((kv xs 2) / 12) % 3)),vI 60] 31 (0,0)),(kb,.rows 1 c_ (bu dE (ks xs 24++rest)) 3 (0,0)),((n1+0),.lit [vI 0,.slice none 0 0,vI 0,vI 0,vI 0,vI 0,.slice none 0 0,.slice none 0 0,vI 0,vI 0,vI 0,vI 0,vI 0,vI 0,vI 0,vI 0] 31 (0,0))],[V_,U_],(j:Int) <= sE xs /\ bods.length=j /\ (∀t,t<j -> ∃A c,bods.getD t dB=uX xs t A c) /\ (∀t,t<j -> ShH (bods.getD t dB).sh U_) /\ SlIs lI 106 bods B_ d_ V_ /\ bx B_,(sE xs).toNat-j⟩) (0,[],none,0,[],[]) [0,1,2,3,4,5,6,7] [0,1] (⟨by show (0:Int) <= _;omega,rfl,λ t ht=>absurd ht (Nat.not_lt_zero _),λ t ht=>absurd ht (Nat.not_lt_zero _),aar _ _,trivial⟩) ?_;rintro⟨j,bods,B_,d_,V_,U_⟩ ⟨hj_,Tn,hb_,U4,ac1,acC⟩ afO;refine ae 2 [] λ _=>aak [] []<|aF [] [0,1,3,2,4,5,6,7,8,9] [.own 5,.row 6 3 0,.nw,.nw,.nw] [bm ((1+((kv xs 0) % 3))+(((kv xs 3) / 3) % 3)),0 <= (kv xs 3) / 3 /\ (0:Int)<3 /\ (kv xs 3) / 3 <= 9223372036854775807,0 <= kv xs 3 /\ (0:Int)<3 /\ kv xs 3 <= 9223372036854775807,3=3*1+0 /\ 3<c_]<|aad<|ae 1 [] λ _=>aal ((j:Int)<(1+((kv xs 0) % 3))+(((kv xs 3) / 3) % 3)) 101 (λ h24=>?_) λ h24=>?_
  ·refine ai 13 [.nw,.nw,.ix ((4+(2*(j:Int))).toNat),.row 6 ((4+(2*(j:Int))).toNat) 0] [(0+((4+(2*(j:Int))).toNat)*1)=((4+(2*(j:Int))).toNat)*1+0 /\ ((4+(2*(j:Int))).toNat)<c_,4+(2*(j:Int))=(((4+(2*(j:Int))).toNat:Nat):Int) /\ (4+(2*(j:Int))).toNat<24,bm (4+(2*(j:Int))),bm (2*(j:Int))] λ _=>aS 109 (congrArg (λ v_=>(vI v_:Value)) (HX (xs:=xs) (rest:=rest) (n:=24) (i:=4+2*j) (by omega))) ?_;have hbN:=iz hl (4+2*j);rw[show kv xs (4+2*j)=bN xs j from rfl] at hbN;refine ai 11 [.nw,.nw,.ix ((5+(2*(j:Int))).toNat),.row 6 ((5+(2*(j:Int))).toNat) 0] [(0+((5+(2*(j:Int))).toNat)*1)=((5+(2*(j:Int))).toNat)*1+0 /\ ((5+(2*(j:Int))).toNat)<c_,5+(2*(j:Int))=(((5+(2*(j:Int))).toNat:Nat):Int) /\ (5+(2*(j:Int))).toNat<24,bm (5+(2*(j:Int))),bm (2*(j:Int))] λ _=>aS 115 (congrArg (λ v_=>(vI v_:Value)) (HX (xs:=xs) (rest:=rest) (n:=24) (i:=5+2*j) (by omega))) ?_;have hbM:=iz hl (5+2*j);rw[show kv xs (5+2*j)=bM xs j from rfl] at hbM;refine ae 6 [] λ _=>aai (Hp:=[]) (Tp:=[]) [] [] (yH (bN xs j) _) ?_;rintro _ ⟨A25,c26,V4⟩ ⟨rfl,Zm⟩;dsimp only at Zm;refine ai 37 ([.nw,.nw]++ow 0 9++[.nw,.nw,.nw,.nw,.nw,.nw,.nw,.nw,.nw,.nw,.nw,.nw,.nw,.nw,.nw,.nw,.nw,.nw]) [0 <= (bM xs j) / 5000 /\ (0:Int)<5 /\ (bM xs j) / 5000 <= 9223372036854775807,0 <= bM xs j /\ (0:Int)<5000 /\ bM xs j <= 9223372036854775807,bm (((((bN xs j) / 13000) % 9)-4)*300),bm ((((bN xs j) / 13000) % 9)-4),0 <= (bN xs j) / 13000 /\ (0:Int)<9 /\ (bN xs j) / 13000 <= 9223372036854775807,0 <= bN xs j /\ (0:Int)<13000 /\ bN xs j <= 9223372036854775807,bm (((((bM xs j) / 550) % 9)-4)*300),bm ((((bM xs j) / 550) % 9)-4),0 <= (bM xs j) / 550 /\ (0:Int)<9 /\ (bM xs j) / 550 <= 9223372036854775807,0 <= bM xs j /\ (0:Int)<550 /\ bM xs j <= 9223372036854775807,bm (((((bM xs j) / 50) % 11)-5)*800),bm ((((bM xs j) / 50) % 11)-5),0 <= (bM xs j) / 50 /\ (0:Int)<11 /\ (bM xs j) / 50 <= 9223372036854775807,0 <= bM xs j /\ (0:Int)<50 /\ bM xs j <= 9223372036854775807,bm (((((bN xs j) / 1000) % 13)-6)*900),bm ((((bN xs j) / 1000) % 13)-6),0 <= (bN xs j) / 1000 /\ (0:Int)<13 /\ (bN xs j) / 1000 <= 9223372036854775807,0 <= bN xs j /\ (0:Int)<1000 /\ bN xs j <= 9223372036854775807,0 <= bN xs j /\ (0:Int)<7 /\ bN xs j <= 9223372036854775807,0 <= bM xs j /\ (0:Int)<50 /\ bM xs j <= 9223372036854775807] λ n29=>aaj 0 (.rows 1 5 (aM [1024,1024,512,2048,0]) 3 (0,0))<|ai 12 ([.ix ((((bM xs j) / 5000) % 5).toNat),.row 0 ((((bM xs j) / 5000) % 5).toNat) 0]++ow 1 5++[.own 7]++ow 1 9) [(0+((((bM xs j) / 5000) % 5).toNat)*1)=((((bM xs j) / 5000) % 5).toNat)*1+0 /\ ((((bM xs j) / 5000) % 5).toNat)<5,((bM xs j) / 5000) % 5=(((((bM xs j) / 5000) % 5).toNat:Nat):Int) /\ (((bM xs j) / 5000) % 5).toNat<5] λ n30=>eA wC bods [uX xs j A25 c26] 1 0 Tn.symm ac1 (by rw[Tn];show j+1 <= 100000000;omega) ?_;rintro A31 c32 T33 ⟨agx,aga⟩;refine ai 10 [.own 8,.nw] [bm ((j:Int)+1)] λ _=>?_;have Vr:=aga acC;refine oO [2,1,0]<|qP ?_;refine afO (j+1,bods++[(uX xs j A25 c26)],A31,c32,T33,U_++V4) [3,4,5,6,7,8,9,10] [1,0] ?_
   try dsimp only
   refine⟨⟨by omega,by rw[aaV,Tn];rfl,?_,?_,agx,Vr⟩,by omega⟩
   ·intro t ht;rcases abd t j with h|h
    ·rw[sG (by omega)];exact hb_ t h
    ·have:t=bods.length:=by omega
     subst this;rw[uY,Tn];exact⟨_,_,rfl⟩
   ·intro t ht;rcases abd t j with h|h
    ·rw[sG (by omega)];exact(U4 t h).left
    ·have:t=bods.length:=by omega
     subst this;rw[uY];exact ShH.right Zm
  ·refine ae 7 [] λ _=>?_;have ej:(j:Int)=sE xs:=by unfold sE Ls;unfold sE Ls at hj_;omega
   obtain⟨bb,Uy,rfl,rfl,Uf⟩:=ac1.open0 acC (by decide) (by rw[Tn];omega);refine qO 0 (x:=(bb,.rows 9 d_ (bu lI (bods++Uy)) 106 (0,0)))<|ae 5 (ow 6 16++ow 8 16) λ _=>aaj 5 (.rows 4 3 (bu yI yJ) 25 (0,0))<|aaj 3 (.rows 2 1 (bu nS (mZ 1)) 97 (0,0))<|aaj 2 (.rows 2 2 (bu nS (mZ 2)) 97 (0,0))<|aap (ow 8 16) [0,5,3,2] [0] (v:=.agg #[vI (1+((kv xs 0) % 3)),vS bb 0 j d_,vI (-12000),vI (-9000),vI 12000,vI 9000,vS (n21+0) 0 3 3,.slice (yK (n21+1) (n21+2) (n21+3) (((kv xs 3) % 3).toNat)) (ke (((kv xs 3) % 3).toNat)) (ke (((kv xs 3) % 3).toNat)),vI (4000+(((kv xs 1) % 9)*1000)),vI 0,vI ((-(((kv xs 2) / 36) % 3))*40),vI ((((kv xs 1) / 9) % 5)*100),vI (((kv xs 2) % 4)*100),vI ((((kv xs 2) / 4) % 3)*512),vI (1+(((kv xs 2) / 12) % 3)),vI 60]) (H':=(ap [(bb,.rows 9 d_ (bu lI (bods++Uy)) 106 (0,0)),((n21+0),.rows 4 3 (bu yI yJ) 25 (0,0)),((n21+2),.rows 2 1 (bu nS (mZ 1)) 97 (0,0)),((n21+3),.rows 2 2 (bu nS (mZ 2)) 97 (0,0))] [U_])) ?_;have Va:∀k,k<j -> (bods++Uy).getD (0+k) dB=bods.getD k dB:=λ k hk=>by rw[Nat.zero_add,sG (by omega)]
   refine⟨((⟨1+((kv xs 0) % 3),bb,0,j,d_,d_,bods++Uy,⟨-12000,-9000,12000,9000⟩,some ⟨(n21+0),0,none⟩,3,3,yK (n21+1) (n21+2) (n21+3) (kv xs 3 % 3).toNat,ke (kv xs 3 % 3).toNat,ke (kv xs 3 % 3).toNat,4000+(((kv xs 1) % 9)*1000),⟨0,(-(((kv xs 2) / 36) % 3))*40⟩,(((kv xs 1) / 9) % 5)*100,((kv xs 2) % 4)*100,(((kv xs 2) / 4) % 3)*512,1+(((kv xs 2) / 12) % 3),60⟩:Setup),[((n21+0),.rows 4 3 (bu yI yJ) 25 (0,0)),((n21+2),.rows 2 1 (bu nS (mZ 1)) 97 (0,0)),((n21+3),.rows 2 2 (bu nS (mZ 2)) 97 (0,0))]++U_),(by simp[ap]),rfl,?_⟩;refine⟨rfl,ej,rfl,(by rw[Tn] at Uf;exact Uf),(by rw[Tn] at Uf;show 0+j <= d_;omega),⟨rfl,rfl,rfl,rfl,rfl,rfl,rfl,rfl⟩,λ k hk=>?_,λ F hbF hF=>⟨⟨by show (0:Int) <= 1+kv xs 0 % 3 /\ 1+kv xs 0 % 3 <= 1000000;omega,by show j <= 1000000;omega⟩,hbF,by show 0+j <= d_;rw[Tn] at Uf;omega,λ k hk=>?_⟩,⟨⟨rfl,rfl⟩,λ F hF=>⟨RowL.whole (xs:=yJ) (hF _ (aav _ (aaA))) (aaS _),Bn (hF _ (aav _ (aaC _ (aaA)))) (hF _ (aav _ (aaC _ (aaC _ (aaA))))) _⟩⟩⟩
   ·obtain⟨A,c,h⟩:=hb_ k hk;exact⟨A,c,by show (bods++Uy).getD (0+k) dB=_;rw[Va k hk];exact h⟩
   ·show ShIn F ((bods++Uy).getD (0+k) dB).sh;rw[Va k hk];exact U4 k hk F λ x hx=>hF x (by simp[hx])
def rowN(pl:Int)(xs:List Int)(t:Int)(q:Nat):Int:=if xs.length>0 then aB (xs.getD ((t*pl+(q:Int)) % (xs.length:Int)).toNat 0) 1000000 else 0
def yL(n:Int):Inp:=⟨n % 3-1,n / 3 % 3-1,if n / 9 % 3=0 then n / 27 % 4 else 0⟩
def wQ(pl:Int)(xs:List Int)(t:Int)(q:Nat):Inp:=yL (rowN pl xs t q)
def rowL(pl:Int)(xs:List Int)(t:Int)(n:Nat):List Inp:=(List.range n).map (wQ pl xs t)
theorem fV(pl:Int)(xs:List Int)(t:Int)(n:Nat):(rowL pl xs t n).length=n:=by simp[rowL]
theorem pY(pl:Int)(xs:List Int)(t:Int)(n:Nat):rowL pl xs t (n+1)=rowL pl xs t n++[wQ pl xs t n]:=by simp[rowL,List.range_succ]
theorem HY{pl:Int}{xs:List Int}{t:Int}{n i:Nat}(h:i<n):(rowL pl xs t n).getD i dI=wQ pl xs t i:=by simp[rowL,h]
theorem Lt{F:HL}{A:Option Addr}{n:Nat}{xs:List Int}(h:ArgL F A n xs)(pl t:Int)(q:Nat):0 <= rowN pl xs t q /\ rowN pl xs t q<1000000:=by
 unfold rowN;split
 ·next hi =>
  rw[h.len] at hi;have h1:=Int.emod_nonneg (t*pl+(q:Int)) (show (n:Int)≠0 by omega);have h2:=Int.emod_lt_of_pos (t*pl+(q:Int)) (show (0:Int)<n by omega);rw[h.len];obtain⟨_,_,_,_,_,_,_,_,_,_,hr⟩:=h.at (k:=((t*pl+(q:Int)) % (n:Int)).toNat) (by omega);exact eC hr 1000000 (by decide)
 ·omega
theorem Lu(S:Setup)(A:Option Addr)(n cap:Nat)(xs:List Int)(t:Int)(F:HL)(hl:ArgL F A n xs)(hn:n <= 9223372036854775807)(hp:0 <= S.players /\ S.players <= 1000000)(ht:0 <= t /\ t <= 1000000):Sp Tryz.prog 39 #[Setup.v S,.slice A n cap,vI t] (ap [] []) F (λ u H'=>∃x:Option Addr × Nat × HL,H'=ap [] [x.2.2] /\ (u=.slice x.1 S.players.toNat x.2.1 /\ SlIs iE 151 (rowL S.players xs t S.players.toNat) x.1 x.2.1 x.2.2 /\ bx x.1)):=by
 have hm:0 <= t*S.players /\ t*S.players <= 1000000000000:=⟨Int.mul_nonneg ht.1 hp.1,Int.le_trans (Int.mul_le_mul ht.2 hp.2 hp.1 (by decide)) (by decide)⟩;refine aas Tryz.func39 rfl mn (A:=[]) (Ts:=[]) rfl λ w0=>?_;refine ae 18 [] λ n1=>aao<|aan (σ:=Nat × Option Addr × Nat × HL) (λ ⟨q,A_,c_,T_⟩=>⟨[(1,.slice A n cap),(2,vI t),(3,vP (n1+0) 0),(7,.slice A_ q c_),(8,vI (q:Int))],[((n1+0),.lit (Setup.l S) 31 (0,0))],[T_],(q:Int) <= S.players /\ SlIs iE 151 (rowL S.players xs t q) A_ c_ T_ /\ bx A_,S.players.toNat-q⟩) (0,none,0,[]) [0] [0] (⟨by show (0:Int) <= _;omega,aar _ _,trivial⟩) ?_;rintro⟨q,A_,c_,T_⟩ ⟨Yu,IF,WV⟩ Uj;refine ae 9 [.own 0] λ _=>aal ((q:Int)<S.players) 14 (λ h4=>?_) λ h4=>?_
 ·refine ae 18 [] λ _=>aal ((n:Int)>0) 19 (λ h5=>?_) λ h5=>?_
  ·refine ai 12 [.own 0,.nw,.nw,.nw] [0 <= (t*S.players)+(q:Int) /\ (0:Int)<(n:Int) /\ (t*S.players)+(q:Int) <= 9223372036854775807,bm ((t*S.players)+(q:Int)),bm (t*S.players)] λ _=>?_;have anf:=Int.emod_nonneg (t*S.players+(q:Int)) (show (n:Int)≠0 by omega);have ane:=Int.emod_lt_of_pos (t*S.players+(q:Int)) (show (0:Int)<n by omega);obtain⟨qx6,X2,Nx6,gx6,afF,aip,abr,aaG,agP,aaZ,aaB⟩:=hl.at (k:=((t*S.players+(q:Int)) % (n:Int)).toNat) (by omega);refine aS 20 (congrArg (λ v_=>(.slice v_ n cap:Value)) abr)<|RN.ro (λ _=>(mc aaG mn))<|ai 2 [.ix ((((t*S.players)+(q:Int)) % (n:Int)).toNat),.rorow 0 (X2+((((t*S.players)+(q:Int)) % (n:Int)).toNat)) 0] [(X2+((((t*S.players)+(q:Int)) % (n:Int)).toNat)*1)=(X2+((((t*S.players)+(q:Int)) % (n:Int)).toNat))*1+0 /\ (X2+((((t*S.players)+(q:Int)) % (n:Int)).toNat))<Nx6,((t*S.players)+(q:Int)) % (n:Int)=(((((t*S.players)+(q:Int)) % (n:Int)).toNat:Nat):Int) /\ (((t*S.players)+(q:Int)) % (n:Int)).toNat<n] λ _=>aS 31 (congrArg (λ v_=>(v_:Value)) aaZ)<|aah (gF (xs.getD (((t*S.players+(q:Int)) % (n:Int)).toNat) 0) 1000000 (by decide) _) ?_;have hA7:=eC (n:=xs.getD (((t*S.players+(q:Int)) % (n:Int)).toNat) 0) aaB 1000000 (by decide);refine ae 4 [] λ _=>ai 22 [.nw,.nw,.nw,.nw,.nw,.own 0,.own 0,.own 0,.nw,.nw] [0 <= (aB (xs.getD (((t*S.players+(q:Int)) % (n:Int)).toNat) 0) 1000000) / 9 /\ (0:Int)<3 /\ (aB (xs.getD (((t*S.players+(q:Int)) % (n:Int)).toNat) 0) 1000000) / 9 <= 9223372036854775807,0 <= aB (xs.getD (((t*S.players+(q:Int)) % (n:Int)).toNat) 0) 1000000 /\ (0:Int)<9 /\ aB (xs.getD (((t*S.players+(q:Int)) % (n:Int)).toNat) 0) 1000000 <= 9223372036854775807,bm ((((aB (xs.getD (((t*S.players+(q:Int)) % (n:Int)).toNat) 0) 1000000) / 3) % 3)-1),0 <= (aB (xs.getD (((t*S.players+(q:Int)) % (n:Int)).toNat) 0) 1000000) / 3 /\ (0:Int)<3 /\ (aB (xs.getD (((t*S.players+(q:Int)) % (n:Int)).toNat) 0) 1000000) / 3 <= 9223372036854775807,0 <= aB (xs.getD (((t*S.players+(q:Int)) % (n:Int)).toNat) 0) 1000000 /\ (0:Int)<3 /\ aB (xs.getD (((t*S.players+(q:Int)) % (n:Int)).toNat) 0) 1000000 <= 9223372036854775807,bm (((aB (xs.getD (((t*S.players+(q:Int)) % (n:Int)).toNat) 0) 1000000) % 3)-1),0 <= aB (xs.getD (((t*S.players+(q:Int)) % (n:Int)).toNat) 0) 1000000 /\ (0:Int)<3 /\ aB (xs.getD (((t*S.players+(q:Int)) % (n:Int)).toNat) 0) 1000000 <= 9223372036854775807] λ n8=>aal (((aB (xs.getD (((t*S.players+(q:Int)) % (n:Int)).toNat) 0) 1000000) / 9) % 3=0) 44 (λ h9=>?_) λ h9=>?_
   ·refine ai 13 [.nw,.nw,.own 0,.own 0,.own 0,.own 0] [0 <= (aB (xs.getD (((t*S.players+(q:Int)) % (n:Int)).toNat) 0) 1000000) / 27 /\ (0:Int)<4 /\ (aB (xs.getD (((t*S.players+(q:Int)) % (n:Int)).toNat) 0) 1000000) / 27 <= 9223372036854775807,0 <= aB (xs.getD (((t*S.players+(q:Int)) % (n:Int)).toNat) 0) 1000000 /\ (0:Int)<27 /\ aB (xs.getD (((t*S.players+(q:Int)) % (n:Int)).toNat) 0) 1000000 <= 9223372036854775807] λ UF=>?_;have Uo:wQ S.players xs t q=(⟨((aB (xs.getD (((t*S.players+(q:Int)) % (n:Int)).toNat) 0) 1000000) % 3)-1,(((aB (xs.getD (((t*S.players+(q:Int)) % (n:Int)).toNat) 0) 1000000) / 3) % 3)-1,((aB (xs.getD (((t*S.players+(q:Int)) % (n:Int)).toNat) 0) 1000000) / 27) % 4⟩:Inp):=by
     unfold wQ;rw[show rowN S.players xs t q=aB (xs.getD (((t*S.players+(q:Int)) % (n:Int)).toNat) 0) 1000000 from by unfold rowN;rw[hl.len];rw[if_pos (by omega)]]
     first|rfl|(unfold yL;simp only[if_pos h9])
    refine eA sk (rowL S.players xs t q) [(⟨((aB (xs.getD (((t*S.players+(q:Int)) % (n:Int)).toNat) 0) 1000000) % 3)-1,(((aB (xs.getD (((t*S.players+(q:Int)) % (n:Int)).toNat) 0) 1000000) / 3) % 3)-1,((aB (xs.getD (((t*S.players+(q:Int)) % (n:Int)).toNat) 0) 1000000) / 27) % 4⟩:Inp)] 0 0 (fV _ _ _ _).symm IF (by rw[fV];show q+1 <= 100000000;omega) ?_;rintro A11 c12 XU ⟨agE,agf⟩;refine ai 9 [.nw] [bm ((q:Int)+1)] λ _=>?_;have Vr:=agf WV;refine Uj (q+1,A11,c12,XU) [2] [0] ?_
    try dsimp only
    refine⟨⟨by omega,?_,Vr⟩,by omega⟩;rw[pY,Uo];exact agE
   ·refine ae 7 (aab 3) λ n16=>?_;have Uo:wQ S.players xs t q=(⟨((aB (xs.getD (((t*S.players+(q:Int)) % (n:Int)).toNat) 0) 1000000) % 3)-1,(((aB (xs.getD (((t*S.players+(q:Int)) % (n:Int)).toNat) 0) 1000000) / 3) % 3)-1,0⟩:Inp):=by
     unfold wQ;rw[show rowN S.players xs t q=aB (xs.getD (((t*S.players+(q:Int)) % (n:Int)).toNat) 0) 1000000 from by unfold rowN;rw[hl.len];rw[if_pos (by omega)]]
     first|rfl|(unfold yL;simp only[if_neg h9])
    refine eA sk (rowL S.players xs t q) [(⟨((aB (xs.getD (((t*S.players+(q:Int)) % (n:Int)).toNat) 0) 1000000) % 3)-1,(((aB (xs.getD (((t*S.players+(q:Int)) % (n:Int)).toNat) 0) 1000000) / 3) % 3)-1,0⟩:Inp)] 0 0 (fV _ _ _ _).symm IF (by rw[fV];show q+1 <= 100000000;omega) ?_;rintro A17 c18 VM ⟨agB,agd⟩;refine ai 9 [.nw] [bm ((q:Int)+1)] λ _=>?_;have Vr:=agd WV;refine Uj (q+1,A17,c18,VM) [2] [0] ?_
    try dsimp only
    refine⟨⟨by omega,?_,Vr⟩,by omega⟩;rw[pY,Uo];exact agB
  ·refine ae 4 [] λ _=>ae 35 (ow 0 7) λ n22=>?_;have Uo:wQ S.players xs t q=(⟨(-1),(-1),0⟩:Inp):=by
    unfold wQ;rw[show rowN S.players xs t q=0 from by unfold rowN;rw[hl.len];rw[if_neg (by omega)]];rfl
   refine eA sk (rowL S.players xs t q) [(⟨(-1),(-1),0⟩:Inp)] 0 0 (fV _ _ _ _).symm IF (by rw[fV];show q+1 <= 100000000;omega) ?_;rintro A23 c24 ZQ ⟨agA,agc⟩;refine ai 9 [.nw] [bm ((q:Int)+1)] λ _=>?_;have Vr:=agc WV;refine Uj (q+1,A23,c24,ZQ) [2] [0] ?_
   try dsimp only
   refine⟨⟨by omega,?_,Vr⟩,by omega⟩;rw[pY,Uo];exact agA
 ·refine ae 12 [] λ _=>aap [] [] [0] (v:=.slice A_ q c_) (H':=(ap [] [T_])) ?_;have ei:q=S.players.toNat:=by omega
  subst ei;exact⟨(A_,c_,T_),rfl,rfl,IF,WV⟩
theorem rq(a:Addr)(n c:Nat)(xs:List Bod)(F:HL)(hl:SrcIn Tryz.prog lI F (some a) n xs)(hb:n <= 100000000):Sp Tryz.prog 134 #[.slice (some a) n c] [] F (λ u H'=>∃x:Option Addr × Nat × HL,H'=ap [] [x.2.2] /\ (u=.slice x.1 n x.2.1 /\ ClS lI 106 xs x.1 x.2.1 x.2.2)):=by
 refine aas Tryz.func134 rfl mn (A:=[]) (Ts:=[]) rfl λ w0=>?_;refine ae 19 [] λ n1=>aao<|jL (A:=(some ⟨(n1+0),0,none⟩)) (B:=(some a)) (c':=c) wC xs 0 (λ a_ e_=>by cases e_;rfl) (m:=n) (tx:=23) hl.1.1.symm (by rw[hl.1.1];exact hb) (λ e_ he X w hR=>hl.2 c he X w hR) ?_;rintro A2 c3 T4 Vv;refine ae 3 [] λ _=>aap [] [] [0] (v:=.slice A2 xs.length c3) (H':=(ap [] [T4])) ?_;exact⟨(A2,c3,T4),rfl,by rw[hl.1.1],_,Vv⟩
theorem rt(c:Nat)(F:HL):Sp Tryz.prog 134 #[.slice none 0 c] [] F (λ u H'=>∃x:Option Addr × Nat × HL,H'=ap [] [x.2.2] /\ (u=.slice x.1 0 x.2.1 /\ ClS lI 106 [] x.1 x.2.1 x.2.2)):=by
 refine aas Tryz.func134 rfl mn (A:=[]) (Ts:=[]) rfl λ w0=>?_;refine ae 18 [] λ _=>aap [] [] [] (v:=.slice none 0 0) (H':=(ap [] [])) ?_;exact⟨(none,0,[]),rfl,rfl,.nil _ _ _⟩
theorem lZ(A:Option Addr)(n c:Nat)(xs:List Bod)(F:HL)(hl:SrcIn Tryz.prog lI F A n xs)(hb:n <= 100000000):Sp Tryz.prog 134 #[.slice A n c] (ap [] []) F (λ u H'=>∃x:Option Addr × Nat × HL,H'=ap [] [x.2.2] /\ (u=.slice x.1 n x.2.1 /\ ClS lI 106 xs x.1 x.2.1 x.2.2)):=by
 cases A with
 | some a=>exact rq a n c xs F hl hb
 | none =>
  obtain rfl:n=0:=hl.1.2 rfl;obtain rfl:xs=[]:=abb hl.1.1;exact rt c F
theorem sH(a:Addr)(n c:Nat)(xs:List V2)(F:HL)(hl:SrcIn Tryz.prog lY F (some a) n xs)(hb:n <= 100000000):Sp Tryz.prog 135 #[.slice (some a) n c] [] F (λ u H'=>∃x:Option Addr × Nat × HL,H'=ap [] [x.2.2] /\ (u=.slice x.1 n x.2.1 /\ ClS lY 29 xs x.1 x.2.1 x.2.2)):=by
 refine aas Tryz.func135 rfl mn (A:=[]) (Ts:=[]) rfl λ w0=>?_;refine ae 19 [] λ n1=>aao<|jL (A:=(some ⟨(n1+0),0,none⟩)) (B:=(some a)) (c':=c) Bm xs 0 (λ a_ e_=>by cases e_;rfl) (m:=n) (tx:=99) hl.1.1.symm (by rw[hl.1.1];exact hb) (λ e_ he X w hR=>hl.2 c he X w hR) ?_;rintro A2 c3 T4 Vv;refine ae 3 [] λ _=>aap [] [] [0] (v:=.slice A2 xs.length c3) (H':=(ap [] [T4])) ?_;exact⟨(A2,c3,T4),rfl,by rw[hl.1.1],_,Vv⟩
theorem sI(c:Nat)(F:HL):Sp Tryz.prog 135 #[.slice none 0 c] [] F (λ u H'=>∃x:Option Addr × Nat × HL,H'=ap [] [x.2.2] /\ (u=.slice x.1 0 x.2.1 /\ ClS lY 29 [] x.1 x.2.1 x.2.2)):=by
 refine aas Tryz.func135 rfl mn (A:=[]) (Ts:=[]) rfl λ w0=>?_;refine ae 18 [] λ _=>aap [] [] [] (v:=.slice none 0 0) (H':=(ap [] [])) ?_;exact⟨(none,0,[]),rfl,rfl,.nil _ _ _⟩
theorem ng(A:Option Addr)(n c:Nat)(xs:List V2)(F:HL)(hl:SrcIn Tryz.prog lY F A n xs)(hb:n <= 100000000):Sp Tryz.prog 135 #[.slice A n c] (ap [] []) F (λ u H'=>∃x:Option Addr × Nat × HL,H'=ap [] [x.2.2] /\ (u=.slice x.1 n x.2.1 /\ ClS lY 29 xs x.1 x.2.1 x.2.2)):=by
 cases A with
 | some a=>exact sH a n c xs F hl hb
 | none =>
  obtain rfl:n=0:=hl.1.2 rfl;obtain rfl:xs=[]:=abb hl.1.1;exact sI c F
theorem sJ(a:Addr)(n c:Nat)(xs:List Bx)(F:HL)(hl:SrcIn Tryz.prog yI F (some a) n xs)(hb:n <= 100000000):Sp Tryz.prog 136 #[.slice (some a) n c] [] F (λ u H'=>∃x:Option Addr × Nat × HL,H'=ap [] [x.2.2] /\ (u=.slice x.1 n x.2.1 /\ ClS yI 25 xs x.1 x.2.1 x.2.2)):=by
 refine aas Tryz.func136 rfl mn (A:=[]) (Ts:=[]) rfl λ w0=>?_;refine ae 19 [] λ n1=>aao<|jL (A:=(some ⟨(n1+0),0,none⟩)) (B:=(some a)) (c':=c) HV xs 0 (λ a_ e_=>by cases e_;rfl) (m:=n) (tx:=26) hl.1.1.symm (by rw[hl.1.1];exact hb) (λ e_ he X w hR=>hl.2 c he X w hR) ?_;rintro A2 c3 T4 Vv;refine ae 3 [] λ _=>aap [] [] [0] (v:=.slice A2 xs.length c3) (H':=(ap [] [T4])) ?_;exact⟨(A2,c3,T4),rfl,by rw[hl.1.1],_,Vv⟩
theorem sK(c:Nat)(F:HL):Sp Tryz.prog 136 #[.slice none 0 c] [] F (λ u H'=>∃x:Option Addr × Nat × HL,H'=ap [] [x.2.2] /\ (u=.slice x.1 0 x.2.1 /\ ClS yI 25 [] x.1 x.2.1 x.2.2)):=by
 refine aas Tryz.func136 rfl mn (A:=[]) (Ts:=[]) rfl λ w0=>?_;refine ae 18 [] λ _=>aap [] [] [] (v:=.slice none 0 0) (H':=(ap [] [])) ?_;exact⟨(none,0,[]),rfl,rfl,.nil _ _ _⟩
theorem nh(A:Option Addr)(n c:Nat)(xs:List Bx)(F:HL)(hl:SrcIn Tryz.prog yI F A n xs)(hb:n <= 100000000):Sp Tryz.prog 136 #[.slice A n c] (ap [] []) F (λ u H'=>∃x:Option Addr × Nat × HL,H'=ap [] [x.2.2] /\ (u=.slice x.1 n x.2.1 /\ ClS yI 25 xs x.1 x.2.1 x.2.2)):=by
 cases A with
 | some a=>exact sJ a n c xs F hl hb
 | none =>
  obtain rfl:n=0:=hl.1.2 rfl;obtain rfl:xs=[]:=abb hl.1.1;exact sK c F
theorem ru(a:Addr)(n c:Nat)(xs:List Dr)(F:HL)(hl:SrcIn Tryz.prog nS F (some a) n xs)(hb:n <= 100000000):Sp Tryz.prog 137 #[.slice (some a) n c] [] F (λ u H'=>∃x:Option Addr × Nat × HL,H'=ap [] [x.2.2] /\ (u=.slice x.1 n x.2.1 /\ ClS nS 97 xs x.1 x.2.1 x.2.2)):=by
 refine aas Tryz.func137 rfl mn (A:=[]) (Ts:=[]) rfl λ w0=>?_;refine ae 19 [] λ n1=>aao<|jL (A:=(some ⟨(n1+0),0,none⟩)) (B:=(some a)) (c':=c) HW xs 0 (λ a_ e_=>by cases e_;rfl) (m:=n) (tx:=27) hl.1.1.symm (by rw[hl.1.1];exact hb) (λ e_ he X w hR=>hl.2 c he X w hR) ?_;rintro A2 c3 T4 Vv;refine ae 3 [] λ _=>aap [] [] [0] (v:=.slice A2 xs.length c3) (H':=(ap [] [T4])) ?_;exact⟨(A2,c3,T4),rfl,by rw[hl.1.1],_,Vv⟩
theorem rv(c:Nat)(F:HL):Sp Tryz.prog 137 #[.slice none 0 c] [] F (λ u H'=>∃x:Option Addr × Nat × HL,H'=ap [] [x.2.2] /\ (u=.slice x.1 0 x.2.1 /\ ClS nS 97 [] x.1 x.2.1 x.2.2)):=by
 refine aas Tryz.func137 rfl mn (A:=[]) (Ts:=[]) rfl λ w0=>?_;refine ae 18 [] λ _=>aap [] [] [] (v:=.slice none 0 0) (H':=(ap [] [])) ?_;exact⟨(none,0,[]),rfl,rfl,.nil _ _ _⟩
theorem l7(A:Option Addr)(n c:Nat)(xs:List Dr)(F:HL)(hl:SrcIn Tryz.prog nS F A n xs)(hb:n <= 100000000):Sp Tryz.prog 137 #[.slice A n c] (ap [] []) F (λ u H'=>∃x:Option Addr × Nat × HL,H'=ap [] [x.2.2] /\ (u=.slice x.1 n x.2.1 /\ ClS nS 97 xs x.1 x.2.1 x.2.2)):=by
 cases A with
 | some a=>exact ru a n c xs F hl hb
 | none =>
  obtain rfl:n=0:=hl.1.2 rfl;obtain rfl:xs=[]:=abb hl.1.1;exact rv c F
theorem sL(a:Addr)(n c:Nat)(xs:List Ins)(F:HL)(hl:SrcIn Tryz.prog lW F (some a) n xs)(hb:n <= 100000000):Sp Tryz.prog 43 #[.slice (some a) n c] [] F (λ u H'=>∃x:Option Addr × Nat × HL,H'=ap [] [x.2.2] /\ (u=.slice x.1 n x.2.1 /\ ClS lW 129 xs x.1 x.2.1 x.2.2)):=by
 refine aas Tryz.func43 rfl mn (A:=[]) (Ts:=[]) rfl λ w0=>?_;refine ae 19 [] λ n1=>aao<|jL (A:=(some ⟨(n1+0),0,none⟩)) (B:=(some a)) (c':=c) G3 xs 0 (λ a_ e_=>by cases e_;rfl) (m:=n) (tx:=44) hl.1.1.symm (by rw[hl.1.1];exact hb) (λ e_ he X w hR=>hl.2 c he X w hR) ?_;rintro A2 c3 T4 Vv;refine ae 3 [] λ _=>aap [] [] [0] (v:=.slice A2 xs.length c3) (H':=(ap [] [T4])) ?_;exact⟨(A2,c3,T4),rfl,by rw[hl.1.1],_,Vv⟩
theorem sM(c:Nat)(F:HL):Sp Tryz.prog 43 #[.slice none 0 c] [] F (λ u H'=>∃x:Option Addr × Nat × HL,H'=ap [] [x.2.2] /\ (u=.slice x.1 0 x.2.1 /\ ClS lW 129 [] x.1 x.2.1 x.2.2)):=by
 refine aas Tryz.func43 rfl mn (A:=[]) (Ts:=[]) rfl λ w0=>?_;refine ae 18 [] λ _=>aap [] [] [] (v:=.slice none 0 0) (H':=(ap [] [])) ?_;exact⟨(none,0,[]),rfl,rfl,.nil _ _ _⟩
theorem uh(A:Option Addr)(n c:Nat)(xs:List Ins)(F:HL)(hl:SrcIn Tryz.prog lW F A n xs)(hb:n <= 100000000):Sp Tryz.prog 43 #[.slice A n c] (ap [] []) F (λ u H'=>∃x:Option Addr × Nat × HL,H'=ap [] [x.2.2] /\ (u=.slice x.1 n x.2.1 /\ ClS lW 129 xs x.1 x.2.1 x.2.2)):=by
 cases A with
 | some a=>exact sL a n c xs F hl hb
 | none =>
  obtain rfl:n=0:=hl.1.2 rfl;obtain rfl:xs=[]:=abb hl.1.1;exact sM c F
theorem pZ(a:Addr)(n c:Nat)(xs:List Inp)(F:HL)(hl:SrcIn Tryz.prog iE F (some a) n xs)(hb:n <= 100000000):Sp Tryz.prog 112 #[.slice (some a) n c] [] F (λ u H'=>∃x:Option Addr × Nat × HL,H'=ap [] [x.2.2] /\ (u=.slice x.1 n x.2.1 /\ ClS iE 151 xs x.1 x.2.1 x.2.2)):=by
 refine aas Tryz.func112 rfl mn (A:=[]) (Ts:=[]) rfl λ w0=>?_;refine ae 19 [] λ n1=>aao<|jL (A:=(some ⟨(n1+0),0,none⟩)) (B:=(some a)) (c':=c) sk xs 0 (λ a_ e_=>by cases e_;rfl) (m:=n) (tx:=56) hl.1.1.symm (by rw[hl.1.1];exact hb) (λ e_ he X w hR=>hl.2 c he X w hR) ?_;rintro A2 c3 T4 Vv;refine ae 3 [] λ _=>aap [] [] [0] (v:=.slice A2 xs.length c3) (H':=(ap [] [T4])) ?_;exact⟨(A2,c3,T4),rfl,by rw[hl.1.1],_,Vv⟩
theorem p5(c:Nat)(F:HL):Sp Tryz.prog 112 #[.slice none 0 c] [] F (λ u H'=>∃x:Option Addr × Nat × HL,H'=ap [] [x.2.2] /\ (u=.slice x.1 0 x.2.1 /\ ClS iE 151 [] x.1 x.2.1 x.2.2)):=by
 refine aas Tryz.func112 rfl mn (A:=[]) (Ts:=[]) rfl λ w0=>?_;refine ae 18 [] λ _=>aap [] [] [] (v:=.slice none 0 0) (H':=(ap [] [])) ?_;exact⟨(none,0,[]),rfl,rfl,.nil _ _ _⟩
theorem rx(A:Option Addr)(n c:Nat)(xs:List Inp)(F:HL)(hl:SrcIn Tryz.prog iE F A n xs)(hb:n <= 100000000):Sp Tryz.prog 112 #[.slice A n c] (ap [] []) F (λ u H'=>∃x:Option Addr × Nat × HL,H'=ap [] [x.2.2] /\ (u=.slice x.1 n x.2.1 /\ ClS iE 151 xs x.1 x.2.1 x.2.2)):=by
 cases A with
 | some a=>exact pZ a n c xs F hl hb
 | none =>
  obtain rfl:n=0:=hl.1.2 rfl;obtain rfl:xs=[]:=abb hl.1.1;exact p5 c F
def eX(lo hi:Int)(ns:List Int):Prop:=∀k,k<ns.length -> lo <= ns.getD k 0 /\ ns.getD k 0 <= hi
instance (lo hi:Int) (ns:List Int):Decidable (eX lo hi ns):=inferInstanceAs (Decidable (∀k,k<ns.length -> _))
theorem l8(lo hi:Int):eX lo hi []:=λ k hk=>absurd hk (Nat.not_lt_zero _)
theorem kf{lo hi x:Int}{ns:List Int}:eX lo hi (x::ns)↔(lo <= x /\ x <= hi) /\ eX lo hi ns:=by
 constructor
 ·intro h;exact⟨h 0 (Nat.succ_pos _),λ k hk=>h (k+1) (Nat.succ_lt_succ hk)⟩
 ·rintro⟨h1,h2⟩ k hk;cases k with
  | zero=>exact h1
  | succ k=>exact h2 k (Nat.lt_of_succ_lt_succ hk)
theorem eS(lo hi:Int)(ns:List Int)(q:Nat)(F:HL)(hq:(q,.rows 1 ns.length (aM ns) 3 (0,0))∈F)(hn:ns.length <= 1000000):Sp Tryz.prog 193 #[vI lo,vI hi,vS q 0 ns.length ns.length] [] F (λ u H'=>u=.bool (decide (eX lo hi ns)) /\ H'=[]):=by
 refine aas Tryz.func193 rfl (mc hq mn) (A:=[]) (Ts:=[]) rfl λ w0=>?_;refine ae 14 [] λ _=>aan (σ:=Nat) (λ k=>⟨[(0,vI lo),(1,vI hi),(9,vS q 0 ns.length ns.length),(10,vI (ns.length:Int)),(11,vI (k:Int))],[],[],k <= ns.length /\ ∀t,t<k -> lo <= ns.getD t 0 /\ ns.getD t 0 <= hi,ns.length-k⟩) 0 [] [] (⟨aaU _,λ t ht=>absurd ht (Nat.not_lt_zero _)⟩) ?_;rintro k ⟨hkl,hwk⟩ UP;refine ae 6 [] λ _=>aal ((k:Int)<(ns.length:Int)) 12 (λ h3=>?_) λ h3=>?_
 ·refine ai 18 [.ix k,.rorow 0 k 0] [(0+k*1)=k*1+0 /\ k<ns.length,(k:Int)=((k:Nat):Int) /\ k<ns.length] λ _=>aal (ns.getD k 0<lo) 18 (λ h4=>?_) λ h4=>?_
  ·refine ae 12 [] λ _=>aap [] [] [] (v:=.bool false) (H':=[]) ?_;exact⟨by rw[abz (show ¬ eX lo hi ns from λ h_=>by have:=h_ k (by omega);omega)],rfl⟩
  ·refine ae 6 [] λ _=>aal (ns.getD k 0>hi) 22 (λ h5=>?_) λ h5=>?_
   ·refine ae 6 [] λ _=>aap [] [] [] (v:=.bool false) (H':=[]) ?_;exact⟨by rw[abz (show ¬ eX lo hi ns from λ h_=>by have:=h_ k (by omega);omega)],rfl⟩
   ·refine ai 8 [.nw] [bm ((k:Int)+1)] λ _=>?_;refine UP (k+1) [] [] ?_
    try dsimp only
    refine⟨⟨by omega,λ t ht=>?_⟩,by omega⟩;rcases abd t k with h_|h_
    ·exact hwk t h_
    ·obtain rfl:t=k:=by omega
     exact⟨by omega,by omega⟩
 ·refine ae 11 [] λ _=>aap [] [] [] (v:=.bool true) (H':=[]) ?_;exact⟨by rw[abA (show eX lo hi ns from λ t ht=>hwk t (by omega))],rfl⟩
def gM(b:Bx):Prop:=(b.x0 <= b.x1 /\ b.y0 <= b.y1) /\ eX (-1048576) 1048576 [b.x0,b.y0,b.x1,b.y1]
instance (b:Bx):Decidable (gM b):=inferInstanceAs (Decidable (_ /\ _))
def f8(b:Bod)(x:Bx):Prop:=eX 0 4096 [b.mot.inv] /\ eX (-16384) 16384 [b.mot.vx,b.mot.vy] /\ eX x.x0 x.x1 [b.mot.px] /\ eX x.y0 x.y1 [b.mot.py] /\ eX (-2147483647) 2147483647 [b.a,b.b]
instance (b:Bod) (x:Bx):Decidable (f8 b x):=inferInstanceAs (Decidable (_ /\ _))
def kg(S:Setup):Prop:=eX 1 8 [S.players] /\ eX S.players 24 [(S.nb:Int)] /\ eX 0 4194304 [S.fog] /\ eX (-16384) 16384 [S.g.x,S.g.y] /\ eX 0 16384 [S.push] /\ eX 0 1024 [S.drag,S.rest] /\ eX 1 4 [S.rounds] /\ eX 0 1000 [S.fuel]
instance (S:Setup):Decidable (kg S):=inferInstanceAs (Decidable (_ /\ _))
theorem sN(b:Bx)  (F:HL):Sp Tryz.prog 131 #[.agg #[vI b.x0,vI b.y0,vI b.x1,vI b.y1]] [] F (λ u H'=>u=.bool (decide (gM b)) /\ H'=[]):=by
 refine aas Tryz.func131 rfl mn (A:=[]) (Ts:=[]) rfl λ w0=>?_;refine ae 14 (aab 2) λ n1=>aal (b.x0 <= b.x1) 8 (λ h2=>?_) λ h2=>?_
 ·refine ae 7 (aab 2) λ _=>aal (b.y0 <= b.y1) 15 (λ h3=>?_) λ h3=>?_
  ·refine ae 9 (aab 4) λ n4=>aaj 0 (.rows 1 4 (aM [b.x0,b.y0,b.x1,b.y1]) 3 (0,0))<|aah (eS (-1048576) 1048576 [b.x0,b.y0,b.x1,b.y1] (n4+0) _ (au 0) (aaN rfl))<|ae 4 [] λ _=>aap [] [] [] (v:=.bool (decide (eX (-1048576) 1048576 [b.x0,b.y0,b.x1,b.y1]))) (H':=[]) ?_;exact⟨by simp[gM, *],rfl⟩
  ·refine ae 14 [] λ _=>aap [] [] [] (v:=.bool false) (H':=[]) ?_;exact⟨by simp[gM, *],rfl⟩
 ·refine ae 21 [] λ _=>aap [] [] [] (v:=.bool false) (H':=[]) ?_;exact⟨by simp[gM, *],rfl⟩
theorem Fa(b:Bod)(x:Bx)(F:HL):Sp Tryz.prog 133 #[.agg #[vI b.sh.r,.slice b.sh.A b.sh.poly.length b.sh.cap,vI b.mot.px,vI b.mot.py,vI b.mot.vx,vI b.mot.vy,vI b.mot.inv,vI b.a,vI b.b],.agg #[vI x.x0,vI x.y0,vI x.x1,vI x.y1]] [] F (λ u H'=>u=.bool (decide (f8 b x)) /\ H'=[]):=by
 refine aas Tryz.func133 rfl mn (A:=[]) (Ts:=[]) rfl λ w0=>?_;refine ae 20 (ow 1 5++ow 0 6) λ n1=>aaj 0 (.rows 1 1 (aM [b.mot.inv]) 3 (0,0))<|aah (eS 0 4096 [b.mot.inv] (n1+3) _ (au 0) (aaN rfl))<|ae 1 [] λ _=>aal (eX 0 4096 [b.mot.inv]) 12 (λ h2=>?_) λ h2=>?_
 ·refine ae 7 [.own 1,.own 1] λ n3=>aaj 0 (.rows 1 2 (aM [b.mot.vx,b.mot.vy]) 3 (0,0))<|aah (eS (-16384) 16384 [b.mot.vx,b.mot.vy] (n3+0) _ (au 0) (aaN rfl))<|ae 2 [] λ _=>aal (eX (-16384) 16384 [b.mot.vx,b.mot.vy]) 22 (λ h4=>?_) λ h4=>?_
  ·refine ae 8 [.own 3,.own 3,.own 2] λ n5=>aaj 0 (.rows 1 1 (aM [b.mot.px]) 3 (0,0))<|aah (eS x.x0 x.x1 [b.mot.px] (n5+0) _ (au 0) (aaN rfl))<|ae 2 [] λ _=>aal (eX x.x0 x.x1 [b.mot.px]) 33 (λ h6=>?_) λ h6=>?_
   ·refine ae 8 [.own 4,.own 4,.own 3] λ n7=>aaj 0 (.rows 1 1 (aM [b.mot.py]) 3 (0,0))<|aah (eS x.y0 x.y1 [b.mot.py] (n7+0) _ (au 0) (aaN rfl))<|ae 2 [] λ _=>aal (eX x.y0 x.y1 [b.mot.py]) 44 (λ h8=>?_) λ h8=>?_
    ·refine ae 5 [.own 6,.own 6] λ n9=>aaj 0 (.rows 1 2 (aM [b.a,b.b]) 3 (0,0))<|aah (eS (-2147483647) 2147483647 [b.a,b.b] (n9+0) _ (au 0) (aaN rfl))<|ae 4 [] λ _=>aap [] [] [] (v:=.bool (decide (eX (-2147483647) 2147483647 [b.a,b.b]))) (H':=[]) ?_;exact⟨by simp[f8, *],rfl⟩
    ·refine ae 10 [] λ _=>aap [] [] [] (v:=.bool false) (H':=[]) ?_;exact⟨by simp[f8, *],rfl⟩
   ·refine ae 21 [] λ _=>aap [] [] [] (v:=.bool false) (H':=[]) ?_;exact⟨by simp[f8, *],rfl⟩
  ·refine ae 32 [] λ _=>aap [] [] [] (v:=.bool false) (H':=[]) ?_;exact⟨by simp[f8, *],rfl⟩
 ·refine ae 42 [] λ _=>aap [] [] [] (v:=.bool false) (H':=[]) ?_;exact⟨by simp[f8, *],rfl⟩
theorem HZ(S:Setup)(F:HL):Sp Tryz.prog 130 #[(Setup.v S)] [] F (λ u H'=>u=.bool (decide (kg S)) /\ H'=[]):=by
 refine aas Tryz.func130 rfl mn (A:=[]) (Ts:=[]) rfl λ w0=>?_;refine ae 11 [.own 0] λ n1=>aaj 0 (.rows 1 1 (aM [S.players]) 3 (0,0))<|aah (eS 1 8 [S.players] (n1+1) _ (au 0) (aaN rfl))<|ae 1 [] λ _=>aal (eX 1 8 [S.players]) 7 (λ h2=>?_) λ h2=>?_
 ·refine ae 6 [.own 1,.own 1] λ n3=>aaj 0 (.rows 1 1 (aM [(S.nb:Int)]) 3 (0,0))<|aah (eS S.players 24 [(S.nb:Int)] (n3+0) _ (au 0) (aaN rfl))<|ae 2 [] λ _=>aal (eX S.players 24 [(S.nb:Int)]) 16 (λ h4=>?_) λ h4=>?_
  ·refine ae 3 [.own 2] λ n5=>aaj 0 (.rows 1 1 (aM [S.fog]) 3 (0,0))<|aah (eS 0 4194304 [S.fog] (n5+0) _ (au 0) (aaN rfl))<|ae 2 [] λ _=>aal (eX 0 4194304 [S.fog]) 22 (λ h6=>?_) λ h6=>?_
   ·refine ae 7 [.own 3,.own 3] λ n7=>aaj 0 (.rows 1 2 (aM [S.g.x,S.g.y]) 3 (0,0))<|aah (eS (-16384) 16384 [S.g.x,S.g.y] (n7+0) _ (au 0) (aaN rfl))<|ae 2 [] λ _=>aal (eX (-16384) 16384 [S.g.x,S.g.y]) 32 (λ h8=>?_) λ h8=>?_
    ·refine ae 3 [.own 4] λ n9=>aaj 0 (.rows 1 1 (aM [S.push]) 3 (0,0))<|aah (eS 0 16384 [S.push] (n9+0) _ (au 0) (aaN rfl))<|ae 2 [] λ _=>aal (eX 0 16384 [S.push]) 38 (λ Ti=>?_) λ Ti=>?_
     ·refine ae 5 [.own 5,.own 5] λ n11=>aaj 0 (.rows 1 2 (aM [S.drag,S.rest]) 3 (0,0))<|aah (eS 0 1024 [S.drag,S.rest] (n11+0) _ (au 0) (aaN rfl))<|ae 2 [] λ _=>aal (eX 0 1024 [S.drag,S.rest]) 46 (λ TH=>?_) λ TH=>?_
      ·refine ae 3 [.own 6] λ n13=>aaj 0 (.rows 1 1 (aM [S.rounds]) 3 (0,0))<|aah (eS 1 4 [S.rounds] (n13+0) _ (au 0) (aaN rfl))<|ae 2 [] λ _=>aal (eX 1 4 [S.rounds]) 52 (λ Uh=>?_) λ Uh=>?_
       ·refine ae 3 [.own 7] λ n15=>aaj 0 (.rows 1 1 (aM [S.fuel]) 3 (0,0))<|aah (eS 0 1000 [S.fuel] (n15+0) _ (au 0) (aaN rfl))<|ae 4 [] λ _=>aap [] [] [] (v:=.bool (decide (eX 0 1000 [S.fuel]))) (H':=[]) ?_;exact⟨by simp[kg, *],rfl⟩
       ·refine ae 8 [] λ _=>aap [] [] [] (v:=.bool false) (H':=[]) ?_;exact⟨by simp[kg, *],rfl⟩
      ·refine ae 14 [] λ _=>aap [] [] [] (v:=.bool false) (H':=[]) ?_;exact⟨by simp[kg, *],rfl⟩
     ·refine ae 22 [] λ _=>aap [] [] [] (v:=.bool false) (H':=[]) ?_;exact⟨by simp[kg, *],rfl⟩
    ·refine ae 28 [] λ _=>aap [] [] [] (v:=.bool false) (H':=[]) ?_;exact⟨by simp[kg, *],rfl⟩
   ·refine ae 38 [] λ _=>aap [] [] [] (v:=.bool false) (H':=[]) ?_;exact⟨by simp[kg, *],rfl⟩
  ·refine ae 44 [] λ _=>aap [] [] [] (v:=.bool false) (H':=[]) ?_;exact⟨by simp[kg, *],rfl⟩
 ·refine ae 53 [] λ _=>aap [] [] [] (v:=.bool false) (H':=[]) ?_;exact⟨by simp[kg, *],rfl⟩
def sO(n:Nat)(d:Dr):Prop:=eX 0 ((n:Int)-1) [d.a,d.b] /\ ¬ d.a=d.b
instance (n:Nat) (d:Dr):Decidable (sO n d):=inferInstanceAs (Decidable (_ /\ _))
def nj(S:Setup)(rs:List Bx)(ds:List Dr):Prop:=((S.rn:Int) <= 8 /\ (S.dn:Int) <= 16) /\ (∀k,k<S.rn -> gM (rs.getD k yI.dflt)) /\ ∀k,k<S.dn -> sO S.rn (ds.getD k nS.dflt)
instance (S:Setup) (rs:List Bx) (ds:List Dr):Decidable (nj S rs ds):=inferInstanceAs (Decidable (_ /\ _ /\ _))
theorem H4(S:Setup)(rs:List Bx)(ds:List Dr)(F:HL)(hM:MapIn F S rs ds):Sp Tryz.prog 132 #[(Setup.v S)] [] F (λ u H'=>u=.bool (decide (nj S rs ds)) /\ H'=[]):=by
 refine aas Tryz.func132 rfl mn (A:=[]) (Ts:=[]) rfl λ w0=>?_;refine ae 14 [.own 0] λ n1=>aal ((S.rn:Int)>8) 11 (λ h2=>?_) λ h2=>?_
 ·refine ae 13 [] λ _=>aap [] [] [] (v:=.bool false) (H':=[]) ?_;exact⟨by rw[abz (show ¬ nj S rs ds from λ h_=>by have:=h_.1;omega)],rfl⟩
 ·refine ae 7 [.own 0] λ _=>aal ((S.dn:Int)>16) 16 (λ h3=>?_) λ h3=>?_
  ·refine ae 6 [] λ _=>aap [] [] [] (v:=.bool false) (H':=[]) ?_;exact⟨by rw[abz (show ¬ nj S rs ds from λ h_=>by have:=h_.1;omega)],rfl⟩
  ·refine ae 13 [.own 0] λ _=>aan (σ:=Nat) (λ k=>⟨[(1,vP (n1+0) 0),(18,.slice S.rA S.rn S.rc),(19,vI (S.rn:Int)),(20,vI (k:Int))],[((n1+0),.lit (Setup.l S) 31 (0,0))],[],k <= S.rn /\ ∀t,t<k -> gM (rs.getD t yI.dflt),S.rn-k⟩) 0 [0] [] (⟨aaU _,λ t ht=>absurd ht (Nat.not_lt_zero _)⟩) ?_;rintro k ⟨hkl,hr1⟩ XI;refine ae 6 [] λ _=>aal ((k:Int)<(S.rn:Int)) 21 (λ h6=>?_) λ h6=>?_
   ·refine ae 7 [] λ _=>?_;obtain⟨qx7,Vd,Nx7,fx7,aoq,aem,agH,amS,ahw⟩:=hM.rooms.at (k:=k) (by omega);refine aS 18 (congrArg (λ v_=>(.slice v_ S.rn S.rc:Value)) aem)<|RN.ro (λ _=>(mc agH mn))<|ai 2 [.ix k,.rorow 0 (Vd+k) 0,.rorow 0 (Vd+k) 1,.rorow 0 (Vd+k) 2,.rorow 0 (Vd+k) 3] [((Vd*4+k*4)+3)=(Vd+k)*4+3 /\ (Vd+k)<Nx7,((Vd*4+k*4)+2)=(Vd+k)*4+2 /\ (Vd+k)<Nx7,((Vd*4+k*4)+1)=(Vd+k)*4+1 /\ (Vd+k)<Nx7,(Vd*4+k*4)=(Vd+k)*4+0 /\ (Vd+k)<Nx7,(k:Int)=((k:Nat):Int) /\ k<S.rn] λ _=>aS 23 (congrArg (λ v_=>(.agg #[vI v_.x0,vI v_.y0,vI v_.x1,vI v_.y1]:Value)) ahw)<|ae 7 (ow 0 8) λ n8=>aah (sN (rs.getD k yI.dflt)  _)<|ae 3 [] λ _=>aam (gM (rs.getD k yI.dflt)) 26 (λ h9=>?_) λ h9=>?_
    ·refine ai 8 [.nw] [bm ((k:Int)+1)] λ _=>aS 18 (congrArg (λ v_=>(.slice v_ S.rn S.rc:Value)) aem.symm) ?_;refine XI (k+1) [1] [] ?_
     try dsimp only
     refine⟨⟨by omega,λ t ht=>?_⟩,by omega⟩;rcases abd t k with h_|h_
     ·exact hr1 t h_
     ·obtain rfl:t=k:=by omega
      exact h9
    ·refine ae 6 [] λ _=>aap [] [] [] (v:=.bool false) (H':=[]) ?_;exact⟨by rw[abz (show ¬ nj S rs ds from λ h_=>h9 (h_.2.1 k (by omega)))],rfl⟩
   ·refine ae 16 [.own 0] λ _=>aan (σ:=Nat) (λ j=>⟨[(1,vP (n1+0) 0),(29,.slice S.dA S.dn S.dc),(30,vI (S.dn:Int)),(31,vI (j:Int))],[((n1+0),.lit (Setup.l S) 31 (0,0))],[],j <= S.dn /\ ∀t,t<j -> sO S.rn (ds.getD t nS.dflt),S.dn-j⟩) 0 [0] [] (⟨aaU _,λ t ht=>absurd ht (Nat.not_lt_zero _)⟩) ?_;rintro j ⟨VZ,hd1⟩ Vn;refine ae 6 [] λ _=>aal ((j:Int)<(S.dn:Int)) 32 (λ TH=>?_) λ TH=>?_
    ·refine ae 7 [] λ _=>?_;obtain⟨al0,UY,aeH,aou,ak2,ZJ,adg,akd,adG⟩:=hM.doors.at (k:=j) (by omega);refine aS 29 (congrArg (λ v_=>(.slice v_ S.dn S.dc:Value)) ZJ)<|RN.ro (λ _=>(mc adg mn))<|ai 2 [.ix j,.rorow 0 (UY+j) 0,.rorow 0 (UY+j) 1] [((UY*2+j*2)+1)=(UY+j)*2+1 /\ (UY+j)<aeH,(UY*2+j*2)=(UY+j)*2+0 /\ (UY+j)<aeH,(j:Int)=((j:Nat):Int) /\ j<S.dn] λ _=>aS 34 (congrArg (λ v_=>(.agg #[vI v_.a,vI v_.b]:Value)) adG)<|ai 15 [.own 0,.own 0,.own 1,.nw,.own 0,.own 0] [bm ((S.rn:Int)-1)] λ n14=>aaj 0 (.rows 1 2 (aM [(ds.getD j nS.dflt).a,(ds.getD j nS.dflt).b]) 3 (0,0))<|aah (eS 0 ((S.rn:Int)-1) [(ds.getD j nS.dflt).a,(ds.getD j nS.dflt).b] (n14+1) _ (au 0) (aaN rfl))<|ae 2 [] λ _=>aam (eX 0 ((S.rn:Int)-1) [(ds.getD j nS.dflt).a,(ds.getD j nS.dflt).b]) 46 (λ XS=>?_) λ XS=>?_
     ·refine ae 8 [.own 1,.own 1] λ _=>aal ((ds.getD j nS.dflt).a=(ds.getD j nS.dflt).b) 52 (λ TX=>?_) λ TX=>?_
      ·refine ae 6 [] λ _=>aap [] [] [] (v:=.bool false) (H':=[]) ?_;exact⟨by rw[abz (show ¬ nj S rs ds from λ h_=>(h_.2.2 j (by omega)).2 TX)],rfl⟩
      ·refine ai 8 [.nw] [bm ((j:Int)+1)] λ _=>aS 29 (congrArg (λ v_=>(.slice v_ S.dn S.dc:Value)) ZJ.symm) ?_;refine Vn (j+1) [2] [] ?_
       try dsimp only
       refine⟨⟨by omega,λ t ht=>?_⟩,by omega⟩;rcases abd t j with h_|h_
       ·exact hd1 t h_
       ·obtain rfl:t=j:=by omega
        exact⟨XS,TX⟩
     ·refine ae 14 [] λ _=>aap [] [] [] (v:=.bool false) (H':=[]) ?_;exact⟨by rw[abz (show ¬ nj S rs ds from λ h_=>XS (h_.2.2 j (by omega)).1)],rfl⟩
    ·refine ae 11 [] λ _=>aap [] [] [] (v:=.bool true) (H':=[]) ?_;exact⟨by rw[abA (show nj S rs ds from ⟨⟨by omega,by omega⟩,λ t ht=>hr1 t (by omega),λ t ht=>hd1 t (by omega)⟩)],rfl⟩
def uZ(v w p:V2):Int:=aV (aV (aV (w.x-v.x)*aV (p.y-v.y))-aV (aV (w.y-v.y)*aV (p.x-v.x)))
def wR(n:Nat):List (Int × Int):=(List.range n).map λ i:Nat=>((i:Int),((i:Int)+1) % (n:Int))
theorem sP(n:Nat):(wR n).length=n:=by simp[wR]
theorem yM{n k:Nat}(h:k<n):(wR n)[k]?=some ((k:Int),((k:Int)+1) % (n:Int)):=by simp[wR,h]
theorem yN{n k:Nat}{x:Int × Int}(h:(wR n)[k]?=some x):k<n /\ x=((k:Int),((k:Int)+1) % (n:Int)):=by
 have hk:k<n:=by rw[<- sP n];exact(List.getElem?_eq_some_iff.1 h).1
 rw[yM hk] at h;exact⟨hk,(Option.some.inj h).symm⟩
abbrev Nw(x:Int × Int):Array Value:=#[vI x.1,vI x.2]
def yO(n k:Nat):Int:=((k:Int)+1) % (n:Int)
abbrev vat(l:List V2)(k:Nat):V2:=l.getD k ⟨0,0⟩
def yP(f:Nat -> V2)(n i:Nat):Prop:=¬ uZ (f i) (f (yO n i).toNat) ⟨0,0⟩ <= 0 /\ ∀k,k<n -> ¬ (k:Int)=(i:Int) -> ¬ (k:Int)=yO n i -> ¬ uZ (f i) (f (yO n i).toNat) (f k) <= 0
instance (f:Nat -> V2) (n i:Nat):Decidable (yP f n i):=inferInstanceAs (Decidable (_ /\ _))
def qW(f:Nat -> V2)(n:Nat):Prop:=∀i,i<n -> yP f n i
instance (f:Nat -> V2) (n:Nat):Decidable (qW f n):=inferInstanceAs (Decidable (∀i,i<n -> _))
theorem Lv{n k:Nat}(h:k<n):0 <= yO n k /\ yO n k<n:=⟨Int.emod_nonneg _ (by omega),Int.emod_lt_of_pos _ (by omega)⟩
theorem yQ{f g:Nat -> V2}{n:Nat}(h:∀k,k<n -> f k=g k)(hf:qW f n):qW g n:=λ i hi=>by
 have hb:=Lv hi;have h1:=hf i hi;unfold yP at h1 ⊢;rw[h i hi,h (yO n i).toNat (by omega)] at h1;refine⟨h1.1,λ k hk a b=>?_⟩;have:=h1.2 k hk a b;rwa [h k hk] at this
theorem u9(v w p:V2)(qw qv:Nat)(F:HL)(hqw:(qw,.lit [vI w.x,vI w.y] 29 (0,0))∈F)(hqv:(qv,.lit [vI v.x,vI v.y] 29 (0,0))∈F):Sp Tryz.prog 277 #[.agg #[vI p.x,vI p.y],vP qw 0,vP qv 0] [] F (λ u H'=>u=vI (uZ v w p) /\ H'=[]):=by
 refine aas Tryz.func277 rfl (mc hqw (mc hqv mn)) (A:=[]) (Ts:=[]) rfl λ w0=>?_;refine ae 34 [.ro 0,.ro 1,.own 0,.ro 1,.ro 0,.ro 1,.own 0,.ro 1] λ n1=>?_;exact aap [] [] [] ⟨rfl,rfl⟩
theorem H5(v w:V2)(F:HL):Sp Tryz.prog 247 #[.agg #[vI v.x,vI v.y],.agg #[vI w.x,vI w.y]] (ap [] []) F (λ u H'=>∃n:Nat,H'=ap [((n+1),.lit [vI w.x,vI w.y] 29 (0,0)),((n+0),.lit [vI v.x,vI v.y] 29 (0,0))] [] /\ u=.func (.func 277) #[] #[vP (n+1) 0,vP (n+0) 0]):=by
 refine aas Tryz.func247 rfl mn (A:=[]) (Ts:=[]) rfl λ w0=>?_;refine ae 13 [] λ n1=>aap [] [0,1] [] (v:=.func (.func 277) #[] #[vP (n1+1) 0,vP (n1+0) 0]) (H':=(ap [((n1+1),.lit [vI w.x,vI w.y] 29 (0,0)),((n1+0),.lit [vI v.x,vI v.y] 29 (0,0))] [])) ?_;exact⟨_,rfl,rfl⟩
theorem Fb(n:Nat)(F:HL):Sp Tryz.prog 246 #[vI (n:Int)] (ap [] []) F (λ u H'=>∃q:Nat,H'=ap [(q,.lit [vI (n:Int)] 3 (0,0))] [] /\ u=.func (.func 276) #[] #[vP q 0]):=by
 refine aas Tryz.func246 rfl mn (A:=[]) (Ts:=[]) rfl λ w0=>?_;refine ae 12 [] λ n1=>aap [] [0] [] (v:=.func (.func 276) #[] #[vP (n1+0) 0]) (H':=(ap [((n1+0),.lit [vI (n:Int)] 3 (0,0))] [])) ?_;exact⟨_,rfl,rfl⟩
theorem Bo(n q lp:Nat)(X F:HL)(J:Nat -> HL -> Prop)(Jx:HL -> Prop)(T0:HL)(hn:n <= 1000000)(hq:(q,.lit [vI (n:Int)] 3 (0,0))∈F)(hY:∀i x H Y,(wR n)[i]?=some x -> J i H -> YL Tryz.prog lp (Nw x) H (Y++(X++F)) (λ b H'=>(b=true /\ J (i+1) H') \/ (b=false /\ Jx H')))(Vi:J 0 T0):Sp Tryz.prog 276 #[.func (.yield lp) #[] #[],vP q 0] (ap [] [T0]) (X++F) (λ _ H'=>J (wR n).length H' \/ Jx H'):=by
 refine aas Tryz.func276 rfl (mc (aau X hq) mn) (A:=[]) (Ts:=[T0]) rfl λ w0=>?_;refine ae 7 [.ro 0] λ _=>aan (σ:=Nat × HL) (λ ⟨k,T_⟩=>⟨[(0,.func (.yield lp) #[] #[]),(1,vP q 0),(4,vI (n:Int)),(5,vI (k:Int))],[],[T_],k <= n /\ J k T_,n-k⟩) (0,T0) [] [0] (⟨aaU _,Vi⟩) ?_;rintro⟨k,T_⟩ ⟨hk_,TF⟩ UP;refine ae 6 [] λ _=>aal ((k:Int)<(n:Int)) 6 (λ h3=>?_) λ h3=>?_
 ·refine ai 19 [.nw,.ro 0,.nw] [0 <= (k:Int)+1 /\ (0:Int)<(n:Int) /\ (k:Int)+1 <= 9223372036854775807,bm ((k:Int)+1)] λ _=>RN.yield 0 (hY k _ _ _ (yM (by omega)) TF) ?_;rintro b_ T4 (⟨rfl,hJ5⟩|⟨rfl,hJ5⟩)
  ·refine ai 11 [.gen,.nw] [bm ((k:Int)+1)] λ _=>?_;refine UP (k+1,T4) [] [0] ?_
   try dsimp only
   exact⟨⟨by omega,hJ5⟩,by omega⟩
  ·refine ae 4 [] λ _=>aap [] [] [0] (v:=.tuple #[]) (H':=(ap [] [T4])) ?_;rw[cN];exact .inr hJ5
 ·refine ae 5 [] λ _=>aap [] [] [0] (v:=.tuple #[]) (H':=(ap [] [T_])) ?_;rw[cN];obtain rfl:k=n:=by omega
  exact .inl (by rw[sP];exact TF)
theorem H6(n q:Nat)(F:HL)(hn:n <= 1000000)(hq:(q,.lit [vI (n:Int)] 3 (0,0))∈F):It Tryz.prog 276 #[vP q 0] F Nw (wR n):=by
 intro X l J Jx H0 hY h0;have key:=Bo n q l X F J Jx H0 hn hq hY h0;rw[cN] at key;exact key
theorem H7(full:List V2)(b o N n cap:Nat)(fz:Nat × Nat)(F:HL)(hb:(b,.rows 2 N (j7 full) 29 fz)∈F)(ho:o+n <= N)(hnn:n <= 1000000):Sp Tryz.prog 192 #[vS b (o*2) n cap] [] F (λ u H'=>u=.bool (decide (qW (λ k_=>full.getD (o+k_) ⟨0,0⟩) n)) /\ H'=[]):=by
 refine Sp.runM Tryz.func192 rfl (mc hb mn) (A:=[]) (Ts:=[]) rfl λ w0=>?_;refine ae 9 [] λ n1=>ae 2 [.own 1] λ _=>aai (Hp:=[]) (Tp:=[]) [] [] (Fb n _) ?_;rintro _ q2 rfl;refine ae 3 [] λ _=>RN.range (σ:=Nat) (τ:=Nat) (encs:=λ (x_:Int × Int)=>#[vI x_.1,vI x_.2]) (xs:=(wR n)) (enters_of Tryz.func276 (by kernel_rfl) rfl) (λ m_=>([((n1+1),.lit [.bool false] 4 (0,0)),((n1+0),.lit [vS b (o*2) n cap] 99 (0,0))],[])) (λ i_ m_=>m_=i_ /\ ∀t,t<m_ -> yP (λ k_=>full.getD (o+k_) ⟨0,0⟩) n t) (λ c_ m_=>c_=Code.ret /\ ¬ qW (λ k_=>full.getD (o+k_) ⟨0,0⟩) n) (λ m_=>⟨[(1,vP (n1+0) 0),(2,vP (n1+1) 0),(3,vI (m_:Int)),(4,vI (((m_:Int)+1) % (n:Int)))],[((n1+1),.lit [.bool false] 4 (0,0)),((n1+0),.lit [vS b (o*2) n cap] 99 (0,0))],[],True,0⟩) (λ i_ x_ m_=>m_=i_ /\ ∀t,t<m_ -> yP (λ k_=>full.getD (o+k_) ⟨0,0⟩) n t) 0 (⟨rfl,λ t ht=>absurd ht (Nat.not_lt_zero _)⟩) [1,2] [] (H6 n q2 _ hnn (au 0)) ?_ ?_ ?_ ?_
 ·rintro l_ i_ x_ m_ Y3 w4 hx5 Vj ZV;obtain⟨rfl,dO⟩:=Vj;obtain⟨hm_,rfl⟩:=yN hx5;refine ae 8 [] λ _=>?_;refine ZV m_ [0,1] [] ?_
  try dsimp only
  exact⟨rfl,dO⟩
 ·rintro l_ i_ x_ m_ Y7 w8 hx9 Vj;obtain⟨rfl,dO⟩:=Vj;obtain⟨hm_,rfl⟩:=yN hx9;have hm1:=Int.emod_nonneg ((m_:Int)+1) (show (n:Int)≠0 by omega);have hm2:=Int.emod_lt_of_pos ((m_:Int)+1) (show (0:Int)<n by omega);refine ae 2 [] λ _=>aak [] []<|aF [] [0,1,4,5,2,6,3,7] [.own 1,.own 1,.ix m_,.ix (((((m_:Int)+1) % (n:Int))).toNat),.rorow 1 (o+m_) 0,.rorow 1 (o+m_) 1,.rorow 1 (o+(((((m_:Int)+1) % (n:Int))).toNat)) 0,.rorow 1 (o+(((((m_:Int)+1) % (n:Int))).toNat)) 1] [((o*2+(((((m_:Int)+1) % (n:Int))).toNat)*2)+1)=(o+(((((m_:Int)+1) % (n:Int))).toNat))*2+1 /\ (o+(((((m_:Int)+1) % (n:Int))).toNat))<N,(o*2+(((((m_:Int)+1) % (n:Int))).toNat)*2)=(o+(((((m_:Int)+1) % (n:Int))).toNat))*2+0 /\ (o+(((((m_:Int)+1) % (n:Int))).toNat))<N,((o*2+m_*2)+1)=(o+m_)*2+1 /\ (o+m_)<N,(o*2+m_*2)=(o+m_)*2+0 /\ (o+m_)<N,(((m_:Int)+1) % (n:Int))=((((((m_:Int)+1) % (n:Int))).toNat:Nat):Int) /\ ((((m_:Int)+1) % (n:Int))).toNat<n,(m_:Int)=((m_:Nat):Int) /\ m_<n]<|aae 8 (aaf [] (Hp:=[]) (Tp:=[]) [] [] (H5 (full.getD (o+m_) ⟨0,0⟩) (full.getD (o+(((((m_:Int)+1) % (n:Int))).toNat)) ⟨0,0⟩) _) ?_);rintro _ m10 rfl;refine ag [] [9] []<|aad<|ae 6 [] λ _=>aah (u9 (full.getD (o+m_) ⟨0,0⟩) (full.getD (o+(((((m_:Int)+1) % (n:Int))).toNat)) ⟨0,0⟩) (⟨0,0⟩:V2) (m10+1) (m10+0) _ (au 0) (au 1))<|ae 3 [] λ _=>aal (uZ (full.getD (o+m_) ⟨0,0⟩) (full.getD (o+(((((m_:Int)+1) % (n:Int))).toNat)) ⟨0,0⟩) (⟨0,0⟩:V2) <= 0) 25 (λ TZ=>?_) λ TZ=>?_
  ·refine ae 6 [.own 2] λ _=>RN.rr m_ [2,3] [] ?_
   try dsimp only
   exact⟨rfl,λ ZG=>(ZG m_ hm_).1 TZ⟩
  ·refine ae 11 [.own 3] λ _=>aan (σ:=Nat) (λ k=>⟨[(2,vP (n1+1) 0),(3,vI (m_:Int)),(4,vI (((m_:Int)+1) % (n:Int))),(5,.func (.func 277) #[] #[vP (m10+1) 0,vP (m10+0) 0]),(26,vS b (o*2) n cap),(27,vI (n:Int)),(28,vI (k:Int))],[((m10+1),.lit [vI ((full.getD (o+(((((m_:Int)+1) % (n:Int))).toNat)) ⟨0,0⟩).x),vI ((full.getD (o+(((((m_:Int)+1) % (n:Int))).toNat)) ⟨0,0⟩).y)] 29 (0,0)),((m10+0),.lit [vI ((full.getD (o+m_) ⟨0,0⟩).x),vI ((full.getD (o+m_) ⟨0,0⟩).y)] 29 (0,0)),((n1+1),.lit [.bool false] 4 (0,0)),((n1+0),.lit [vS b (o*2) n cap] 99 (0,0))],[],k <= n /\ ∀t,t<k -> ¬ (t:Int)=(m_:Int) -> ¬ (t:Int)=yO n m_ -> ¬ uZ (full.getD (o+m_) ⟨0,0⟩) (full.getD (o+(yO n m_).toNat) ⟨0,0⟩) (full.getD (o+t) ⟨0,0⟩) <= 0,n-k⟩) 0 [0,1,2,3] [] (⟨aaU _,λ t ht=>absurd ht (Nat.not_lt_zero _)⟩) ?_;rintro k ⟨hkl,Ue⟩ Vm;refine ae 6 [] λ _=>aal ((k:Int)<(n:Int)) 29 (λ Uh=>?_) λ Uh=>?_
   ·refine ai 21 [.ix k,.rorow 1 (o+k) 0,.rorow 1 (o+k) 1,.own 0,.own 0] [((o*2+k*2)+1)=(o+k)*2+1 /\ (o+k)<N,(o*2+k*2)=(o+k)*2+0 /\ (o+k)<N,(k:Int)=((k:Nat):Int) /\ k<n] λ n15=>aam ((k:Int)=(m_:Int)) 36 (λ TX=>?_) λ TX=>?_
    ·refine ai 20 [.nw] [bm ((k:Int)+1)] λ _=>?_;refine Vm (k+1) [1,2,3,4] [] ?_
     try dsimp only
     refine⟨⟨by omega,λ t ht e1_ e2_=>?_⟩,by omega⟩;rcases abd t k with h_|h_
     ·exact Ue t h_ e1_ e2_
     ·obtain rfl:t=k:=by omega
      exact absurd TX e1_
    ·refine ae 5 [] λ _=>aam ((k:Int)=(((m_:Int)+1) % (n:Int))) 41 (λ h17=>?_) λ h17=>?_
     ·refine ai 15 [.nw] [bm ((k:Int)+1)] λ _=>?_;refine Vm (k+1) [1,2,3,4] [] ?_
      try dsimp only
      refine⟨⟨by omega,λ t ht e1_ e2_=>?_⟩,by omega⟩;rcases abd t k with h_|h_
      ·exact Ue t h_ e1_ e2_
      ·obtain rfl:t=k:=by omega
       exact absurd h17 e2_
     ·refine ae 2 (aab 2) λ _=>aah (u9 (full.getD (o+m_) ⟨0,0⟩) (full.getD (o+(((((m_:Int)+1) % (n:Int))).toNat)) ⟨0,0⟩) (full.getD (o+k) ⟨0,0⟩) (m10+1) (m10+0) _ (au 1) (au 2))<|ae 4 [] λ _=>aal (uZ (full.getD (o+m_) ⟨0,0⟩) (full.getD (o+(((((m_:Int)+1) % (n:Int))).toNat)) ⟨0,0⟩) (full.getD (o+k) ⟨0,0⟩) <= 0) 46 (λ h18=>?_) λ h18=>?_
      ·refine ae 6 [.own 3] λ _=>RN.rr m_ [3,4] [] ?_
       try dsimp only
       refine⟨rfl,λ ZG=>?_⟩;exact(ZG m_ hm_).2 k (by omega) TX h17 h18
      ·refine ai 8 [.nw] [bm ((k:Int)+1)] λ _=>?_;refine Vm (k+1) [1,2,3,4] [] ?_
       try dsimp only
       refine⟨⟨by omega,λ t ht e1_ e2_=>?_⟩,by omega⟩;rcases abd t k with h_|h_
       ·exact Ue t h_ e1_ e2_
       ·obtain rfl:t=k:=by omega
        exact h18
   ·refine ae 6 [] λ _=>RN.rn (m_+1) [2,3] [] ?_
    try dsimp only
    refine⟨rfl,λ t ht=>?_⟩;rcases abd t m_ with h_|h_
    ·exact dO t h_
    ·obtain rfl:t=m_:=by omega
     exact⟨TZ,λ s_ IF=>Ue s_ (by omega)⟩
 ·rintro d19 m_  Vj;obtain⟨rfl,dO⟩:=Vj;refine ae 7 [.own 1] λ _=>RN.retM [d19] [0] [.own 0] [] [] (v:=.bool true) (H':=[]) ?_;exact⟨by rw[abA (show qW (λ k_=>full.getD (o+k_) ⟨0,0⟩) n from λ t ht=>dO t (by rw[sP];exact ht))],rfl⟩
 ·rintro d20 c_ m_ ⟨rfl,Uk⟩;refine RN.retM [d20] [0] [.own 0] [] [] (v:=.bool false) (H':=[]) ?_;exact⟨by rw[abz Uk],rfl⟩
end Go.Proofs.YtghjbimijeinfaaGreatDoor
