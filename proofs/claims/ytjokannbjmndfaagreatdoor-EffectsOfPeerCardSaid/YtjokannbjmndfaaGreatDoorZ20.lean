import Derived.Test.YtjokannbjmndfaaGreatDoorZ19
import Derived.Test.YtjokannbjmndfaaGreatDoorZ07
set_option linter.all false
set_option maxHeartbeats 4000000
set_option maxRecDepth 100000
namespace Go.Proofs.YtjokannbjmndfaaGreatDoor
open Go.RowKit
variable {A:Option Addr} {F T X:HL} {a:Addr} {i n:Nat} {s:Shp} {xs:List Int} {α:Type} (cap:Nat)
def Mj(xs:List Int):Int:=1+kv xs 0%3
def rP(xs:List Int):Int:=Mj xs+kv xs 3/3%3
def bN(xs:List Int)(i:Nat):Int:=kv xs (4+2*i)
def bM(xs:List Int)(i:Nat):Int:=kv xs (5+2*i)
def uC(xs:List Int)(i:Nat)(A:Option Addr)(c:Nat):Bod:=⟨⟨(cE (bN xs i)).1,(cE (bN xs i)).2,A,c⟩,⟨((((bN xs i)/1000)%13)-6)*900,((((bM xs i)/50)%11)-5)*800,((((bM xs i)/550)%9)-4)*300,((((bN xs i)/13000)%9)-4)*300,([1024,1024,512,2048,0]:List Int).getD (((bM xs i)/5000)%5).toNat 0⟩,(bM xs i)%50,(bN xs i)%7⟩
def yE(a b c:Nat)(i:Nat):Option Addr:=match i with|0=>some ⟨a,0,none⟩|1=>some ⟨b,0,none⟩|_=>some ⟨c,0,none⟩
def jR(i:Nat):Nat:=match i with|0=>0|1=>1|_=>2
def Da(a b c:Nat):Nat->Nat->Value:=λ i _=>.slice (yE a b c i) (jR i) (jR i)
theorem wp(h:ArgL F A n xs):1<=Mj xs/\Mj xs<=3:=by
 have:=iu h 0;unfold Mj;omega
theorem qV(h:ArgL F A n xs):1<=rP xs/\rP xs<=5/\Mj xs<=rP xs:=by
 have:=iu h 0;have:=iu h 3;unfold rP Mj;omega
theorem IP{rest:List Int}(h:i<n):(ks xs n++rest).getD i 0=kv xs i:=by
 rw[aaG,aa2 (by rw[ne];exact h),<- aaG,Po h]
theorem rQ{l r:List α}{d:α}(h:i<l.length):(l++r).getD i d=l.getD i d:=by
 rw[aaG,aa2 h,<- aaG]
theorem uD{l:List α}{x d:α}:(l++[x]).getD l.length d=x:=by simp
theorem ShH.left(h:ShH s T):ShH s (T++X):=λ F hF=>h F λ x hx=>hF x (aaB _ hx)
theorem ShH.right(h:ShH s X):ShH s (T++X):=λ F hF=>h F λ x hx=>hF x (aaz _ hx)
theorem BG{F:HL}{a b c:Nat}(hb:(b,.rows 2 1 (aD ng (lh 1)) 67 (0,0))∈F)(hc:(c,.rows 2 2 (aD ng (lh 2)) 67 (0,0))∈F):∀i:Nat,RowL ng 67 F (yE a b c i) (jR i) (lh i)
 |0=>.zero _
 |1=>RowL.whole (xs:=lh 1) hb (aaI _)
 |_+2=>RowL.whole (xs:=lh 2) hc (aaI _)
structure SetG(xs:List Int)(S:Setup)(T:HL):Prop where
 pl:S.players=Mj xs
 nb:(S.nb:Int)=rP xs
 bo:S.bo=0
 cap:S.nb<=S.bc
 room:S.bo+S.nb<=S.bR
 nums:S.box=⟨-12000,-9000,12000,9000⟩/\S.fog=4000+(kv xs 1%9)*1000/\S.g=⟨0,(-((kv xs 2/36)%3))*40⟩/\S.push=((kv xs 1/9)%5)*100/\S.drag=(kv xs 2%4)*100/\S.rest=((kv xs 2/4)%3)*512/\S.rounds=1+(kv xs 2/12)%3/\S.fuel=60
 bod:∀j,j<S.nb->∃A c,S.body j=uC xs j A c
 sin:∀F,(S.bb,.rows 9 S.bR (lw S.bods) 76 (0,0))∈F->(∀x∈T,x∈F)->SetIn F S
 maps:(S.rn=3/\S.dn=jR (kv xs 3%3).toNat)/\∀F,(∀x∈T,x∈F)->MapIn F S tG (lh (kv xs 3%3).toNat)
theorem Fu(hl:ArgL F A n xs)(hn:n<=9223372036854775807):af1 4 #[.slice A n cap] (ap [] []) F (λ u H'=>∃x:Setup×HL,H'=ap [(x.1.bb,.rows 9 x.1.bR (lw x.1.bods) 76 (0,0))] [x.2]/\(u=Setup.v x.1/\SetG xs x.1 x.2)):=by
 refine QG Tryz.func4<|ae 17 [] λ n1=>aao<|aan (σ:=Nat×Option Addr×Nat×HL) (λ ⟨i,A_,c_,T_⟩=>⟨[(0,.slice A n cap),(2,vP (n1+0) 0),(3,.slice A_ i c_),(4,vI (i:Int))],[((n1+0),.lit [vI 0,.slice none 0 0,vI 0,vI 0,vI 0,vI 0,.slice none 0 0,.slice none 0 0,vI 0,vI 0,vI 0,vI 0,vI 0,vI 0,vI 0,vI 0] 32 (0,0))],[T_],i<=24/\SlIs dV 3 (ks xs i) A_ c_ T_/\bn A_,24-i⟩) (0,none,0,[]) [0] [0] (⟨aaJ _,aas _ _,trivial⟩) ?_;rintro⟨i,A_,c_,T_⟩ ⟨XB,IT,XP⟩ UC;refine OG 7<|aal ((i:Int)<24) 12 (λ h4=>?_) λ h4=>?_
 ·refine OG 19<|aal ((i:Int)<(n:Int)) 18 (λ h5=>?_) λ h5=>?_
  ·refine ae 4 [] λ _=>?_;obtain⟨qx6,Xu,Nx6,gx6,agD,afy,Zc,Yy,aee,YI,abF⟩:=hl.at (k:=i) (by omega);refine aw 19 (congrArg (λ v_=>(.slice v_ n cap:Value)) Zc)<|RN.ro (λ _=>(mc Yy mn))<|ah 2 [.ix i,.rorow 0 (Xu+i) 0] [(Xu+i*1)=(Xu+i)*1+0/\(Xu+i)<Nx6,(i:Int)=((i:Nat):Int)/\i<n] λ _=>aw 22 (congrArg (λ v_=>(v_:Value)) YI)<|aah (gu (xs.getD i 0) 1000000 (by decide)) ?_;have hA7:=dH (n:=xs.getD i 0) abF 1000000 (by decide);refine ae 7 [] λ n8=>gY wo [aq (xs.getD i 0) 1000000] 0 0 (ne xs i).symm IT (by rw[ne];show i+1<=100000000;omega) ?_;rintro A9 X9 Ub ⟨Yt,abr⟩;refine ah 9 [.nw] [aX ((i:Int)+1)] λ _=>?_;have Yk:=abr XP;refine UC (i+1,A9,X9,Ub) [1] [0] ?_
   try dsimp only
   refine⟨⟨by omega,?_,Yk⟩,by omega⟩;rw[C9,show kv xs i=_ from by unfold kv;rw[if_pos (by rw[hl.len];omega)]];exact Yt
  ·refine ae 7 [] λ n14=>gY wo [0] 0 0 (ne xs i).symm IT (by rw[ne];show i+1<=100000000;omega) ?_;rintro A15 WR V8 ⟨Ys,abq⟩;refine ah 9 [.nw] [aX ((i:Int)+1)] λ _=>?_;have Yk:=abq XP;refine UC (i+1,A15,WR,V8) [1] [0] ?_
   try dsimp only
   refine⟨⟨by omega,?_,Yk⟩,by omega⟩;rw[C9,show kv xs i=_ from by unfold kv;rw[if_neg (by rw[hl.len];omega)]];exact Ys
 ·refine ae 7 [] λ _=>?_;have ei:i=24:=by omega
  subst ei;obtain⟨kb,rest,rfl,rfl,WM⟩:=IT.open0 XP (by decide) (by rw[ne];decide);have hcap:24<=c_:=by rw[ne] at WM;exact WM
  refine rz 0 (x:=(kb,.rows 1 c_ (aD dV (ks xs 24++rest)) 3 (0,0))) ?_;have hk0:=iu hl 0;have VK:=iu hl 1;have WZ:=iu hl 2;have hk3:=iu hl 3;have hse:rP xs=1+kv xs 0%3+kv xs 3/3%3:=rfl;have hsc:=qV hl;have Xw:=wp hl;refine aak [37] []<|aH [] [0,5,6,12,18,23,29,1,7,13,19,24,30,2,8,14,20,25,31,3,9,15,21,26,32,4,10,16,22,27,33,11,17,28,34,35] [.row 0 0 0,.row 0 1 0,.row 0 1 0,.row 0 2 0,.row 0 2 0,.row 0 2 0,.nw,.nw,.nw,.nw,.nw,.nw,.nw,.nw,.nw,.nw,.nw,.nw,.nw,.nw,.nw,.nw] [aX (1+(((kv xs 2)/12)%3)),aX ((((kv xs 2)/4)%3)*512),aX ((((kv xs 1)/9)%5)*100),aX (4000+(((kv xs 1)%9)*1000)),0<=(kv xs 2)/12/\(0:Int)<3/\(kv xs 2)/12<=9223372036854775807,0<=(kv xs 2)/4/\(0:Int)<3/\(kv xs 2)/4<=9223372036854775807,aX (((kv xs 2)%4)*100),0<=(kv xs 1)/9/\(0:Int)<5/\(kv xs 1)/9<=9223372036854775807,aX (((kv xs 1)%9)*1000),aX (1+((kv xs 0)%3)),0<=kv xs 2/\(0:Int)<12/\kv xs 2<=9223372036854775807,0<=kv xs 2/\(0:Int)<4/\kv xs 2<=9223372036854775807,0<=kv xs 2/\(0:Int)<4/\kv xs 2<=9223372036854775807,0<=kv xs 1/\(0:Int)<9/\kv xs 1<=9223372036854775807,0<=kv xs 1/\(0:Int)<9/\kv xs 1<=9223372036854775807,0<=kv xs 0/\(0:Int)<3/\kv xs 0<=9223372036854775807,2=2*1+0/\2<c_,2=2*1+0/\2<c_,2=2*1+0/\2<c_,1=1*1+0/\1<c_,1=1*1+0/\1<c_,0=0*1+0/\0<c_]<|aae 36 (aag [] [] λ XN=>?_);refine Sx 37 [] (ow 0 16)<|aad<|ah 38 [.row 1 2 0,.nw,.nw,.nw,.nw,.o 0,.o 0,.o 1,.row 6 3 0,.nw] [0<=kv xs 3/\(0:Int)<3/\kv xs 3<=9223372036854775807,3=3*1+0/\3<c_,aX ((-(((kv xs 2)/36)%3))*40),-9223372036854775807<=((kv xs 2)/36)%3/\((kv xs 2)/36)%3<=9223372036854775808,0<=(kv xs 2)/36/\(0:Int)<3/\(kv xs 2)/36<=9223372036854775807,0<=kv xs 2/\(0:Int)<36/\kv xs 2<=9223372036854775807,2=2*1+0/\2<c_] λ Uc=>aaj 0 (.rows 1 3 (Da (Uc+1) (Uc+2) (Uc+3)) 28 (0,0))<|ah 13 [.ix (((kv xs 3)%3).toNat),.row 0 (((kv xs 3)%3).toNat) 0,.o 5] [(0+(((kv xs 3)%3).toNat)*1)=(((kv xs 3)%3).toNat)*1+0/\(((kv xs 3)%3).toNat)<3,(kv xs 3)%3=((((kv xs 3)%3).toNat:Nat):Int)/\((kv xs 3)%3).toNat<3] λ _=>aao<|aao<|aan (σ:=Nat×List Bod×Option Addr×Nat×HL×HL) (λ ⟨j,bods,B_,d_,V_,U_⟩=>⟨[(2,vP (n1+0) 0),(3,vS kb 0 24 c_),(6,vP (XN+0) 0),(7,vI (j:Int))],[((Uc+4),.rows 1 3 (Da (Uc+1) (Uc+2) (Uc+3)) 28 (0,0)),((Uc+3),.lit [vI 0,vI 2,vI 1,vI 2] 67 (0,0)),((Uc+2),.lit [vI 0,vI 1] 67 (0,0)),((Uc+1),.lit [] 67 (0,0)),((Uc+0),.lit [vI (-12000),vI (-9000),vI (-1),vI 9000,vI 0,vI 0,vI 12000,vI 9000,vI 0,vI (-9000),vI 12000,vI (-1)] 26 (0,0)),((XN+0),.lit [vI (1+((kv xs 0)%3)),.slice B_ j d_,vI (-12000),vI (-9000),vI 12000,vI 9000,vS (Uc+0) 0 3 3,.slice (yE (Uc+1) (Uc+2) (Uc+3) (((kv xs 3)%3).toNat)) (jR (((kv xs 3)%3).toNat)) (jR (((kv xs 3)%3).toNat)),vI (4000+(((kv xs 1)%9)*1000)),vI 0,vI ((-(((kv xs 2)/36)%3))*40),vI ((((kv xs 1)/9)%5)*100),vI (((kv xs 2)%4)*100),vI ((((kv xs 2)/4)%3)*512),vI (1+(((kv xs 2)/12)%3)),vI 60] 32 (0,0)),(kb,.rows 1 c_ (aD dV (ks xs 24++rest)) 3 (0,0)),((n1+0),.lit [vI 0,.slice none 0 0,vI 0,vI 0,vI 0,vI 0,.slice none 0 0,.slice none 0 0,vI 0,vI 0,vI 0,vI 0,vI 0,vI 0,vI 0,vI 0] 32 (0,0))],[V_,U_],(j:Int)<=rP xs/\bods.length=j/\(∀t,t<j->∃A c,bods.getD t dB=uC xs t A c)/\(∀t,t<j->ShH (bods.getD t dB).sh U_)/\SlIs lc 76 bods B_ d_ V_/\bn B_,(rP xs).toNat-j⟩) (0,[],none,0,[],[]) [0,1,2,3,4,5,6,7] [0,1] (⟨by show (0:Int)<=_;omega,rfl,λ t ht=>absurd ht (ot _),λ t ht=>absurd ht (ot _),aas _ _,trivial⟩) ?_;rintro⟨j,bods,B_,d_,V_,U_⟩ ⟨hj_,VA,Z6,Yq,ZL,adF⟩ agM;refine OG 2<|aak [] []<|aH [] [0,1,3,2,4,5,6,7,8,9] [.o 5,.row 6 3 0,.nw,.nw,.nw] [aX ((1+((kv xs 0)%3))+(((kv xs 3)/3)%3)),0<=(kv xs 3)/3/\(0:Int)<3/\(kv xs 3)/3<=9223372036854775807,0<=kv xs 3/\(0:Int)<3/\kv xs 3<=9223372036854775807,3=3*1+0/\3<c_]<|QQ 1<|aal ((j:Int)<(1+((kv xs 0)%3))+(((kv xs 3)/3)%3)) 101 (λ h24=>?_) λ h24=>?_
  ·refine ah 13 [.nw,.nw,.ix ((4+(2*(j:Int))).toNat),.row 6 ((4+(2*(j:Int))).toNat) 0] [(0+((4+(2*(j:Int))).toNat)*1)=((4+(2*(j:Int))).toNat)*1+0/\((4+(2*(j:Int))).toNat)<c_,4+(2*(j:Int))=(((4+(2*(j:Int))).toNat:Nat):Int)/\(4+(2*(j:Int))).toNat<24,aX (4+(2*(j:Int))),aX (2*(j:Int))] λ _=>aw 109 (congrArg (λ v_=>(vI v_:Value)) (IP (xs:=xs) (rest:=rest) (n:=24) (i:=4+2*j) (by omega))) ?_;have hbN:=iu hl (4+2*j);rw[show kv xs (4+2*j)=bN xs j from rfl] at hbN;refine ah 11 [.nw,.nw,.ix ((5+(2*(j:Int))).toNat),.row 6 ((5+(2*(j:Int))).toNat) 0] [(0+((5+(2*(j:Int))).toNat)*1)=((5+(2*(j:Int))).toNat)*1+0/\((5+(2*(j:Int))).toNat)<c_,5+(2*(j:Int))=(((5+(2*(j:Int))).toNat:Nat):Int)/\(5+(2*(j:Int))).toNat<24,aX (5+(2*(j:Int))),aX (2*(j:Int))] λ _=>aw 115 (congrArg (λ v_=>(vI v_:Value)) (IP (xs:=xs) (rest:=rest) (n:=24) (i:=5+2*j) (by omega))) ?_;have hbM:=iu hl (5+2*j);rw[show kv xs (5+2*j)=bM xs j from rfl] at hbM;refine OG 6<|Ss (yC (bN xs j)) ?_;rintro _ ⟨A25,c26,Zh⟩ ⟨rfl,aaR⟩;dsimp only at aaR;refine ah 37 ([.nw,.nw]++ow 0 9++[.nw,.nw,.nw,.nw,.nw,.nw,.nw,.nw,.nw,.nw,.nw,.nw,.nw,.nw,.nw,.nw,.nw,.nw]) [0<=(bM xs j)/5000/\(0:Int)<5/\(bM xs j)/5000<=9223372036854775807,0<=bM xs j/\(0:Int)<5000/\bM xs j<=9223372036854775807,aX (((((bN xs j)/13000)%9)-4)*300),aX ((((bN xs j)/13000)%9)-4),0<=(bN xs j)/13000/\(0:Int)<9/\(bN xs j)/13000<=9223372036854775807,0<=bN xs j/\(0:Int)<13000/\bN xs j<=9223372036854775807,aX (((((bM xs j)/550)%9)-4)*300),aX ((((bM xs j)/550)%9)-4),0<=(bM xs j)/550/\(0:Int)<9/\(bM xs j)/550<=9223372036854775807,0<=bM xs j/\(0:Int)<550/\bM xs j<=9223372036854775807,aX (((((bM xs j)/50)%11)-5)*800),aX ((((bM xs j)/50)%11)-5),0<=(bM xs j)/50/\(0:Int)<11/\(bM xs j)/50<=9223372036854775807,0<=bM xs j/\(0:Int)<50/\bM xs j<=9223372036854775807,aX (((((bN xs j)/1000)%13)-6)*900),aX ((((bN xs j)/1000)%13)-6),0<=(bN xs j)/1000/\(0:Int)<13/\(bN xs j)/1000<=9223372036854775807,0<=bN xs j/\(0:Int)<1000/\bN xs j<=9223372036854775807,0<=bN xs j/\(0:Int)<7/\bN xs j<=9223372036854775807,0<=bM xs j/\(0:Int)<50/\bM xs j<=9223372036854775807] λ n29=>aaj 0 (.rows 1 5 (aY [1024,1024,512,2048,0]) 3 (0,0))<|ah 12 ([.ix ((((bM xs j)/5000)%5).toNat),.row 0 ((((bM xs j)/5000)%5).toNat) 0]++ow 1 5++[.o 7]++ow 1 9) [(0+((((bM xs j)/5000)%5).toNat)*1)=((((bM xs j)/5000)%5).toNat)*1+0/\((((bM xs j)/5000)%5).toNat)<5,((bM xs j)/5000)%5=(((((bM xs j)/5000)%5).toNat:Nat):Int)/\(((bM xs j)/5000)%5).toNat<5] λ n30=>gY Bb [uC xs j A25 c26] 1 0 VA.symm ZL (by rw[VA];show j+1<=100000000;omega) ?_;rintro A31 c32 T33 ⟨ZK,agV⟩;refine ah 10 [.o 8,.nw] [aX ((j:Int)+1)] λ _=>?_;have Yk:=agV adF;refine uh [2,1,0]<|xE<|agM (j+1,bods++[(uC xs j A25 c26)],A31,c32,T33,U_++Zh) [3,4,5,6,7,8,9,10] [1,0] ?_
   try dsimp only
   refine⟨⟨by omega,by rw[aaK,VA];rfl,?_,?_,ZK,Yk⟩,by omega⟩
   ·intro t ht;rcases aa9 t j with h|h
    ·rw[rQ (by omega)];exact Z6 t h
    ·have:t=bods.length:=by omega
     subst this;rw[uD,VA];exact⟨_,_,rfl⟩
   ·intro t ht;rcases aa9 t j with h|h
    ·rw[rQ (by omega)];exact(Yq t h).left
    ·have:t=bods.length:=by omega
     subst this;rw[uD];exact ShH.right aaR
  ·refine ae 7 [] λ _=>?_;have ej:(j:Int)=rP xs:=by unfold rP Mj;unfold rP Mj at hj_;omega
   obtain⟨bb,V0,rfl,rfl,Vy⟩:=ZL.open0 adF (by decide) (by rw[VA];omega);refine rz 0 (x:=(bb,.rows 9 d_ (aD lc (bods++V0)) 76 (0,0)))<|Sr 5 (ow 6 16++ow 8 16)<|aaj 5 (.rows 4 3 (aD yD tG) 26 (0,0))<|aaj 3 (.rows 2 1 (aD ng (lh 1)) 67 (0,0))<|aaj 2 (.rows 2 2 (aD ng (lh 2)) 67 (0,0))<|QI (ow 8 16) [0,5,3,2] [0] (.agg #[vI (1+((kv xs 0)%3)),vS bb 0 j d_,vI (-12000),vI (-9000),vI 12000,vI 9000,vS (Uc+0) 0 3 3,.slice (yE (Uc+1) (Uc+2) (Uc+3) (((kv xs 3)%3).toNat)) (jR (((kv xs 3)%3).toNat)) (jR (((kv xs 3)%3).toNat)),vI (4000+(((kv xs 1)%9)*1000)),vI 0,vI ((-(((kv xs 2)/36)%3))*40),vI ((((kv xs 1)/9)%5)*100),vI (((kv xs 2)%4)*100),vI ((((kv xs 2)/4)%3)*512),vI (1+(((kv xs 2)/12)%3)),vI 60]) (ap [(bb,.rows 9 d_ (aD lc (bods++V0)) 76 (0,0)),((Uc+0),.rows 4 3 (aD yD tG) 26 (0,0)),((Uc+2),.rows 2 1 (aD ng (lh 1)) 67 (0,0)),((Uc+3),.rows 2 2 (aD ng (lh 2)) 67 (0,0))] [U_]) ?_;have YT:∀k,k<j->(bods++V0).getD (0+k) dB=bods.getD k dB:=λ k hk=>by rw[abP,rQ (by omega)]
   refine⟨((⟨1+((kv xs 0)%3),bb,0,j,d_,d_,bods++V0,⟨-12000,-9000,12000,9000⟩,some ⟨(Uc+0),0,none⟩,3,3,yE (Uc+1) (Uc+2) (Uc+3) (kv xs 3%3).toNat,jR (kv xs 3%3).toNat,jR (kv xs 3%3).toNat,4000+(((kv xs 1)%9)*1000),⟨0,(-(((kv xs 2)/36)%3))*40⟩,(((kv xs 1)/9)%5)*100,((kv xs 2)%4)*100,(((kv xs 2)/4)%3)*512,1+(((kv xs 2)/12)%3),60⟩:Setup),[((Uc+0),.rows 4 3 (aD yD tG) 26 (0,0)),((Uc+2),.rows 2 1 (aD ng (lh 1)) 67 (0,0)),((Uc+3),.rows 2 2 (aD ng (lh 2)) 67 (0,0))]++U_),(by simp[ap]),rfl,?_⟩;refine⟨rfl,ej,rfl,(by rw[VA] at Vy;exact Vy),(by rw[VA] at Vy;show 0+j<=d_;omega),⟨rfl,rfl,rfl,rfl,rfl,rfl,rfl,rfl⟩,λ k hk=>?_,λ F hbF hF=>⟨⟨by show (0:Int)<=1+kv xs 0%3/\1+kv xs 0%3<=1000000;omega,by show j<=1000000;omega⟩,hbF,by show 0+j<=d_;rw[VA] at Vy;omega,λ k hk=>?_⟩,⟨⟨rfl,rfl⟩,λ F hF=>⟨RowL.whole (xs:=tG) (hF _ (aaB _ (aaC))) (aaI _),BG (hF _ (aaB _ (aaD _ (aaC)))) (hF _ (aaB _ (aaD _ (aaD _ (aaC))))) _⟩⟩⟩
   ·obtain⟨A,c,h⟩:=Z6 k hk;exact⟨A,c,by show (bods++V0).getD (0+k) dB=_;rw[YT k hk];exact h⟩
   ·show ShIn F ((bods++V0).getD (0+k) dB).sh;rw[YT k hk];exact Yq k hk F λ x hx=>hF x (by simp[hx])
def rowN(pl:Int)(xs:List Int)(t:Int)(q:Nat):Int:=if xs.length>0 then aq (xs.getD ((t*pl+(q:Int))%(xs.length:Int)).toNat 0) 1000000 else 0
def yF(n:Int):Inp:=⟨n%3-1,n/3%3-1,if n/9%3=0 then n/27%4 else 0⟩
def wq(pl:Int)(xs:List Int)(t:Int)(q:Nat):Inp:=yF (rowN pl xs t q)
def rowL(pl:Int)(xs:List Int)(t:Int)(n:Nat):List Inp:=(List.range n).map (wq pl xs t)
theorem ez{pl:Int}{t:Int}:(rowL pl xs t n).length=n:=by simp[rowL]
theorem pw(pl:Int)(xs:List Int)(t:Int)(n:Nat):rowL pl xs t (n+1)=rowL pl xs t n++[wq pl xs t n]:=by simp[rowL,adn]
theorem IQ{pl:Int}{t:Int}(h:i<n):(rowL pl xs t n).getD i dI=wq pl xs t i:=by simp[rowL,h]
theorem Ml(h:ArgL F A n xs)(pl t:Int)(q:Nat):0<=rowN pl xs t q/\rowN pl xs t q<1000000:=by
 unfold rowN;split
 ·next hi=>
  rw[h.len] at hi;have h1:=ac4 (t*pl+(q:Int)) (show (n:Int)≠0 by omega);have h2:=acN (t*pl+(q:Int)) (show (0:Int)<n by omega);rw[h.len];obtain⟨_,_,_,_,_,_,_,_,_,_,hr⟩:=h.at (k:=((t*pl+(q:Int))%(n:Int)).toNat) (by omega);exact dH hr 1000000 (by decide)
 ·omega
theorem Mm(S:Setup) (cap:Nat)(t:Int)(hl:ArgL F A n xs)(hn:n<=9223372036854775807)(hp:0<=S.players/\S.players<=1000000)(ht:0<=t/\t<=1000000):af1 38 #[Setup.v S,.slice A n cap,vI t] (ap [] []) F (λ u H'=>∃x:Option Addr×Nat×HL,H'=ap [] [x.2.2]/\(u=.slice x.1 S.players.toNat x.2.1/\SlIs cT 106 (rowL S.players xs t S.players.toNat) x.1 x.2.1 x.2.2/\bn x.1)):=by
 have hm:0<=t*S.players/\t*S.players<=1000000000000:=⟨Int.mul_nonneg ht.1 hp.1,Int.le_trans (Int.mul_le_mul ht.2 hp.2 hp.1 (by decide)) (by decide)⟩;refine QG Tryz.func38<|ae 18 [] λ n1=>aao<|aan (σ:=Nat×Option Addr×Nat×HL) (λ ⟨q,A_,c_,T_⟩=>⟨[(1,.slice A n cap),(2,vI t),(3,vP (n1+0) 0),(7,.slice A_ q c_),(8,vI (q:Int))],[((n1+0),.lit (Setup.l S) 32 (0,0))],[T_],(q:Int)<=S.players/\SlIs cT 106 (rowL S.players xs t q) A_ c_ T_/\bn A_,S.players.toNat-q⟩) (0,none,0,[]) [0] [0] (⟨by show (0:Int)<=_;omega,aas _ _,trivial⟩) ?_;rintro⟨q,A_,c_,T_⟩ ⟨XB,IT,XP⟩ UC;refine Sr 9 [.o 0]<|aal ((q:Int)<S.players) 14 (λ h4=>?_) λ h4=>?_
 ·refine OG 18<|aal ((n:Int)>0) 19 (λ h5=>?_) λ h5=>?_
  ·refine ah 12 [.o 0,.nw,.nw,.nw] [0<=(t*S.players)+(q:Int)/\(0:Int)<(n:Int)/\(t*S.players)+(q:Int)<=9223372036854775807,aX ((t*S.players)+(q:Int)),aX (t*S.players)] λ _=>?_;have anZ:=ac4 (t*S.players+(q:Int)) (show (n:Int)≠0 by omega);have anY:=acN (t*S.players+(q:Int)) (show (0:Int)<n by omega);obtain⟨qx6,Xu,Nx6,gx6,agD,afy,Zc,Yy,aee,YI,abF⟩:=hl.at (k:=((t*S.players+(q:Int))%(n:Int)).toNat) (by omega);refine aw 20 (congrArg (λ v_=>(.slice v_ n cap:Value)) Zc)<|RN.ro (λ _=>(mc Yy mn))<|ah 2 [.ix ((((t*S.players)+(q:Int))%(n:Int)).toNat),.rorow 0 (Xu+((((t*S.players)+(q:Int))%(n:Int)).toNat)) 0] [(Xu+((((t*S.players)+(q:Int))%(n:Int)).toNat)*1)=(Xu+((((t*S.players)+(q:Int))%(n:Int)).toNat))*1+0/\(Xu+((((t*S.players)+(q:Int))%(n:Int)).toNat))<Nx6,((t*S.players)+(q:Int))%(n:Int)=(((((t*S.players)+(q:Int))%(n:Int)).toNat:Nat):Int)/\(((t*S.players)+(q:Int))%(n:Int)).toNat<n] λ _=>aw 31 (congrArg (λ v_=>(v_:Value)) YI)<|aah (gu (xs.getD (((t*S.players+(q:Int))%(n:Int)).toNat) 0) 1000000 (by decide)) ?_;have hA7:=dH (n:=xs.getD (((t*S.players+(q:Int))%(n:Int)).toNat) 0) abF 1000000 (by decide);refine OG 4<|ah 22 ([.nw,.nw,.nw,.nw,.nw]++aab 3++[.nw,.nw]) [0<=(aq (xs.getD (((t*S.players+(q:Int))%(n:Int)).toNat) 0) 1000000)/9/\(0:Int)<3/\(aq (xs.getD (((t*S.players+(q:Int))%(n:Int)).toNat) 0) 1000000)/9<=9223372036854775807,0<=aq (xs.getD (((t*S.players+(q:Int))%(n:Int)).toNat) 0) 1000000/\(0:Int)<9/\aq (xs.getD (((t*S.players+(q:Int))%(n:Int)).toNat) 0) 1000000<=9223372036854775807,aX ((((aq (xs.getD (((t*S.players+(q:Int))%(n:Int)).toNat) 0) 1000000)/3)%3)-1),0<=(aq (xs.getD (((t*S.players+(q:Int))%(n:Int)).toNat) 0) 1000000)/3/\(0:Int)<3/\(aq (xs.getD (((t*S.players+(q:Int))%(n:Int)).toNat) 0) 1000000)/3<=9223372036854775807,0<=aq (xs.getD (((t*S.players+(q:Int))%(n:Int)).toNat) 0) 1000000/\(0:Int)<3/\aq (xs.getD (((t*S.players+(q:Int))%(n:Int)).toNat) 0) 1000000<=9223372036854775807,aX (((aq (xs.getD (((t*S.players+(q:Int))%(n:Int)).toNat) 0) 1000000)%3)-1),0<=aq (xs.getD (((t*S.players+(q:Int))%(n:Int)).toNat) 0) 1000000/\(0:Int)<3/\aq (xs.getD (((t*S.players+(q:Int))%(n:Int)).toNat) 0) 1000000<=9223372036854775807] λ n8=>aal (((aq (xs.getD (((t*S.players+(q:Int))%(n:Int)).toNat) 0) 1000000)/9)%3=0) 44 (λ h9=>?_) λ h9=>?_
   ·refine ah 13 ([.nw,.nw]++aab 4) [0<=(aq (xs.getD (((t*S.players+(q:Int))%(n:Int)).toNat) 0) 1000000)/27/\(0:Int)<4/\(aq (xs.getD (((t*S.players+(q:Int))%(n:Int)).toNat) 0) 1000000)/27<=9223372036854775807,0<=aq (xs.getD (((t*S.players+(q:Int))%(n:Int)).toNat) 0) 1000000/\(0:Int)<27/\aq (xs.getD (((t*S.players+(q:Int))%(n:Int)).toNat) 0) 1000000<=9223372036854775807] λ n10=>?_;have Xl:wq S.players xs t q=(⟨((aq (xs.getD (((t*S.players+(q:Int))%(n:Int)).toNat) 0) 1000000)%3)-1,(((aq (xs.getD (((t*S.players+(q:Int))%(n:Int)).toNat) 0) 1000000)/3)%3)-1,((aq (xs.getD (((t*S.players+(q:Int))%(n:Int)).toNat) 0) 1000000)/27)%4⟩:Inp):=by
     unfold wq;rw[show rowN S.players xs t q=aq (xs.getD (((t*S.players+(q:Int))%(n:Int)).toNat) 0) 1000000 from by unfold rowN;rw[hl.len];rw[if_pos (by omega)]]
     first|rfl|(unfold yF;simp only[if_pos h9])
    refine gY rF [(⟨((aq (xs.getD (((t*S.players+(q:Int))%(n:Int)).toNat) 0) 1000000)%3)-1,(((aq (xs.getD (((t*S.players+(q:Int))%(n:Int)).toNat) 0) 1000000)/3)%3)-1,((aq (xs.getD (((t*S.players+(q:Int))%(n:Int)).toNat) 0) 1000000)/27)%4⟩:Inp)] 0 0 (ez).symm IT (by rw[ez];show q+1<=100000000;omega) ?_;rintro A11 c12 U2 ⟨WA,agX⟩;refine ah 9 [.nw] [aX ((q:Int)+1)] λ _=>?_;have Yk:=agX XP;refine UC (q+1,A11,c12,U2) [2] [0] ?_
    try dsimp only
    refine⟨⟨by omega,?_,Yk⟩,by omega⟩;rw[pw,Xl];exact WA
   ·refine ae 7 (aab 3) λ n16=>?_;have Xl:wq S.players xs t q=(⟨((aq (xs.getD (((t*S.players+(q:Int))%(n:Int)).toNat) 0) 1000000)%3)-1,(((aq (xs.getD (((t*S.players+(q:Int))%(n:Int)).toNat) 0) 1000000)/3)%3)-1,0⟩:Inp):=by
     unfold wq;rw[show rowN S.players xs t q=aq (xs.getD (((t*S.players+(q:Int))%(n:Int)).toNat) 0) 1000000 from by unfold rowN;rw[hl.len];rw[if_pos (by omega)]]
     first|rfl|(unfold yF;simp only[if_neg h9])
    refine gY rF [(⟨((aq (xs.getD (((t*S.players+(q:Int))%(n:Int)).toNat) 0) 1000000)%3)-1,(((aq (xs.getD (((t*S.players+(q:Int))%(n:Int)).toNat) 0) 1000000)/3)%3)-1,0⟩:Inp)] 0 0 (ez).symm IT (by rw[ez];show q+1<=100000000;omega) ?_;rintro Zy Zg Wv ⟨Xe,abp⟩;refine ah 9 [.nw] [aX ((q:Int)+1)] λ _=>?_;have Yk:=abp XP;refine UC (q+1,Zy,Zg,Wv) [2] [0] ?_
    try dsimp only
    refine⟨⟨by omega,?_,Yk⟩,by omega⟩;rw[pw,Xl];exact Xe
  ·refine OG 4<|ae 35 (ow 0 7) λ n22=>?_;have Xl:wq S.players xs t q=(⟨(-1),(-1),0⟩:Inp):=by
    unfold wq;rw[show rowN S.players xs t q=0 from by unfold rowN;rw[hl.len];rw[if_neg (by omega)]];rfl
   refine gY rF [(⟨(-1),(-1),0⟩:Inp)] 0 0 (ez).symm IT (by rw[ez];show q+1<=100000000;omega) ?_;rintro A23 c24 T25 ⟨ahg,agW⟩;refine ah 9 [.nw] [aX ((q:Int)+1)] λ _=>?_;have Yk:=agW XP;refine UC (q+1,A23,c24,T25) [2] [0] ?_
   try dsimp only
   refine⟨⟨by omega,?_,Yk⟩,by omega⟩;rw[pw,Xl];exact ahg
 ·refine OG 12<|QI [] [] [0] (.slice A_ q c_) (ap [] [T_]) ?_;have ei:q=S.players.toNat:=by omega
  subst ei;exact⟨(A_,c_,T_),rfl,rfl,IT,XP⟩
theorem qA (c:Nat){xs:List Bod}(hl:SrcIn Tryz.prog lc F (some a) n xs)(hb:n<=100000000):af1 84 #[.slice (some a) n c] [] F (λ u H'=>∃x:Option Addr×Nat×HL,H'=ap [] [x.2.2]/\(u=.slice x.1 n x.2.1/\ClS lc 76 xs x.1 x.2.1 x.2.2)):=by
 refine QG Tryz.func84<|ae 19 [] λ n1=>aao<|gD (A:=(some ⟨(n1+0),0,none⟩)) (B:=(some a)) (c':=c) Bb xs 0 (λ a_ e_=>by cases e_;rfl) (m:=n) (tx:=24) hl.1.1.symm (by rw[hl.1.1];exact hb) (λ e_ he X w hR=>hl.2 c he X w hR) ?_;rintro A2 c3 T4 U8;refine OG 3<|QI [] [] [0] (.slice A2 xs.length c3) (ap [] [T4]) ⟨(A2,c3,T4),rfl,by rw[hl.1.1],_,U8⟩
theorem qB(c:Nat)(F:HL):af1 84 #[.slice none 0 c] [] F (λ u H'=>∃x:Option Addr×Nat×HL,H'=ap [] [x.2.2]/\(u=.slice x.1 0 x.2.1/\ClS lc 76 [] x.1 x.2.1 x.2.2)):=by
 refine QG Tryz.func84<|OG 18<|QJ (.slice none 0 0) (ap [] []) ⟨(none,0,[]),rfl,rfl,.nil _ _ _⟩
theorem rR (c:Nat){xs:List Bod}(hl:SrcIn Tryz.prog lc F A n xs)(hb:n<=100000000):af1 84 #[.slice A n c] (ap [] []) F (λ u H'=>∃x:Option Addr×Nat×HL,H'=ap [] [x.2.2]/\(u=.slice x.1 n x.2.1/\ClS lc 76 xs x.1 x.2.1 x.2.2)):=by
 cases A with
 |some a=>exact qA c hl hb
 |none=>
  obtain rfl:n=0:=hl.1.2 rfl;obtain rfl:xs=[]:=aa6 hl.1.1;exact qB c F
theorem rS (c:Nat){xs:List V2}(hl:SrcIn Tryz.prog mD F (some a) n xs)(hb:n<=100000000):af1 85 #[.slice (some a) n c] [] F (λ u H'=>∃x:Option Addr×Nat×HL,H'=ap [] [x.2.2]/\(u=.slice x.1 n x.2.1/\ClS mD 30 xs x.1 x.2.1 x.2.2)):=by
 refine QG Tryz.func85<|ae 19 [] λ n1=>aao<|gD (A:=(some ⟨(n1+0),0,none⟩)) (B:=(some a)) (c':=c) IM xs 0 (λ a_ e_=>by cases e_;rfl) (m:=n) (tx:=69) hl.1.1.symm (by rw[hl.1.1];exact hb) (λ e_ he X w hR=>hl.2 c he X w hR) ?_;rintro A2 c3 T4 U8;refine OG 3<|QI [] [] [0] (.slice A2 xs.length c3) (ap [] [T4]) ⟨(A2,c3,T4),rfl,by rw[hl.1.1],_,U8⟩
theorem rT(c:Nat)(F:HL):af1 85 #[.slice none 0 c] [] F (λ u H'=>∃x:Option Addr×Nat×HL,H'=ap [] [x.2.2]/\(u=.slice x.1 0 x.2.1/\ClS mD 30 [] x.1 x.2.1 x.2.2)):=by
 refine QG Tryz.func85<|OG 18<|QJ (.slice none 0 0) (ap [] []) ⟨(none,0,[]),rfl,rfl,.nil _ _ _⟩
theorem tH (c:Nat){xs:List V2}(hl:SrcIn Tryz.prog mD F A n xs)(hb:n<=100000000):af1 85 #[.slice A n c] (ap [] []) F (λ u H'=>∃x:Option Addr×Nat×HL,H'=ap [] [x.2.2]/\(u=.slice x.1 n x.2.1/\ClS mD 30 xs x.1 x.2.1 x.2.2)):=by
 cases A with
 |some a=>exact rS c hl hb
 |none=>
  obtain rfl:n=0:=hl.1.2 rfl;obtain rfl:xs=[]:=aa6 hl.1.1;exact rT c F
theorem rU (c:Nat){xs:List Bx}(hl:SrcIn Tryz.prog yD F (some a) n xs)(hb:n<=100000000):af1 86 #[.slice (some a) n c] [] F (λ u H'=>∃x:Option Addr×Nat×HL,H'=ap [] [x.2.2]/\(u=.slice x.1 n x.2.1/\ClS yD 26 xs x.1 x.2.1 x.2.2)):=by
 refine QG Tryz.func86<|ae 19 [] λ n1=>aao<|gD (A:=(some ⟨(n1+0),0,none⟩)) (B:=(some a)) (c':=c) Oe xs 0 (λ a_ e_=>by cases e_;rfl) (m:=n) (tx:=27) hl.1.1.symm (by rw[hl.1.1];exact hb) (λ e_ he X w hR=>hl.2 c he X w hR) ?_;rintro A2 c3 T4 U8;refine OG 3<|QI [] [] [0] (.slice A2 xs.length c3) (ap [] [T4]) ⟨(A2,c3,T4),rfl,by rw[hl.1.1],_,U8⟩
theorem rV(c:Nat)(F:HL):af1 86 #[.slice none 0 c] [] F (λ u H'=>∃x:Option Addr×Nat×HL,H'=ap [] [x.2.2]/\(u=.slice x.1 0 x.2.1/\ClS yD 26 [] x.1 x.2.1 x.2.2)):=by
 refine QG Tryz.func86<|OG 18<|QJ (.slice none 0 0) (ap [] []) ⟨(none,0,[]),rfl,rfl,.nil _ _ _⟩
theorem tI (c:Nat){xs:List Bx}(hl:SrcIn Tryz.prog yD F A n xs)(hb:n<=100000000):af1 86 #[.slice A n c] (ap [] []) F (λ u H'=>∃x:Option Addr×Nat×HL,H'=ap [] [x.2.2]/\(u=.slice x.1 n x.2.1/\ClS yD 26 xs x.1 x.2.1 x.2.2)):=by
 cases A with
 |some a=>exact rU c hl hb
 |none=>
  obtain rfl:n=0:=hl.1.2 rfl;obtain rfl:xs=[]:=aa6 hl.1.1;exact rV c F
theorem qC (c:Nat){xs:List Dr}(hl:SrcIn Tryz.prog ng F (some a) n xs)(hb:n<=100000000):af1 87 #[.slice (some a) n c] [] F (λ u H'=>∃x:Option Addr×Nat×HL,H'=ap [] [x.2.2]/\(u=.slice x.1 n x.2.1/\ClS ng 67 xs x.1 x.2.1 x.2.2)):=by
 refine QG Tryz.func87<|ae 19 [] λ n1=>aao<|gD (A:=(some ⟨(n1+0),0,none⟩)) (B:=(some a)) (c':=c) Og xs 0 (λ a_ e_=>by cases e_;rfl) (m:=n) (tx:=28) hl.1.1.symm (by rw[hl.1.1];exact hb) (λ e_ he X w hR=>hl.2 c he X w hR) ?_;rintro A2 c3 T4 U8;refine OG 3<|QI [] [] [0] (.slice A2 xs.length c3) (ap [] [T4]) ⟨(A2,c3,T4),rfl,by rw[hl.1.1],_,U8⟩
theorem qD(c:Nat)(F:HL):af1 87 #[.slice none 0 c] [] F (λ u H'=>∃x:Option Addr×Nat×HL,H'=ap [] [x.2.2]/\(u=.slice x.1 0 x.2.1/\ClS ng 67 [] x.1 x.2.1 x.2.2)):=by
 refine QG Tryz.func87<|OG 18<|QJ (.slice none 0 0) (ap [] []) ⟨(none,0,[]),rfl,rfl,.nil _ _ _⟩
theorem rX (c:Nat){xs:List Dr}(hl:SrcIn Tryz.prog ng F A n xs)(hb:n<=100000000):af1 87 #[.slice A n c] (ap [] []) F (λ u H'=>∃x:Option Addr×Nat×HL,H'=ap [] [x.2.2]/\(u=.slice x.1 n x.2.1/\ClS ng 67 xs x.1 x.2.1 x.2.2)):=by
 cases A with
 |some a=>exact qC c hl hb
 |none=>
  obtain rfl:n=0:=hl.1.2 rfl;obtain rfl:xs=[]:=aa6 hl.1.1;exact qD c F
theorem rY (c:Nat){xs:List Ins}(hl:SrcIn Tryz.prog ld F (some a) n xs)(hb:n<=100000000):af1 131 #[.slice (some a) n c] [] F (λ u H'=>∃x:Option Addr×Nat×HL,H'=ap [] [x.2.2]/\(u=.slice x.1 n x.2.1/\ClS ld 230 xs x.1 x.2.1 x.2.2)):=by
 refine QG Tryz.func131<|ae 19 [] λ n1=>aao<|gD (A:=(some ⟨(n1+0),0,none⟩)) (B:=(some a)) (c':=c) HD xs 0 (λ a_ e_=>by cases e_;rfl) (m:=n) (tx:=77) hl.1.1.symm (by rw[hl.1.1];exact hb) (λ e_ he X w hR=>hl.2 c he X w hR) ?_;rintro A2 c3 T4 U8;refine OG 3<|QI [] [] [0] (.slice A2 xs.length c3) (ap [] [T4]) ⟨(A2,c3,T4),rfl,by rw[hl.1.1],_,U8⟩
theorem rZ(c:Nat)(F:HL):af1 131 #[.slice none 0 c] [] F (λ u H'=>∃x:Option Addr×Nat×HL,H'=ap [] [x.2.2]/\(u=.slice x.1 0 x.2.1/\ClS ld 230 [] x.1 x.2.1 x.2.2)):=by
 refine QG Tryz.func131<|OG 18<|QJ (.slice none 0 0) (ap [] []) ⟨(none,0,[]),rfl,rfl,.nil _ _ _⟩
theorem mL (c:Nat){xs:List Ins}(hl:SrcIn Tryz.prog ld F A n xs)(hb:n<=100000000):af1 131 #[.slice A n c] (ap [] []) F (λ u H'=>∃x:Option Addr×Nat×HL,H'=ap [] [x.2.2]/\(u=.slice x.1 n x.2.1/\ClS ld 230 xs x.1 x.2.1 x.2.2)):=by
 cases A with
 |some a=>exact rY c hl hb
 |none=>
  obtain rfl:n=0:=hl.1.2 rfl;obtain rfl:xs=[]:=aa6 hl.1.1;exact rZ c F
theorem pz (c:Nat){xs:List Inp}(hl:SrcIn Tryz.prog cT F (some a) n xs)(hb:n<=100000000):af1 56 #[.slice (some a) n c] [] F (λ u H'=>∃x:Option Addr×Nat×HL,H'=ap [] [x.2.2]/\(u=.slice x.1 n x.2.1/\ClS cT 106 xs x.1 x.2.1 x.2.2)):=by
 refine QG Tryz.func56<|ae 19 [] λ n1=>aao<|gD (A:=(some ⟨(n1+0),0,none⟩)) (B:=(some a)) (c':=c) rF xs 0 (λ a_ e_=>by cases e_;rfl) (m:=n) (tx:=57) hl.1.1.symm (by rw[hl.1.1];exact hb) (λ e_ he X w hR=>hl.2 c he X w hR) ?_;rintro A2 c3 T4 U8;refine OG 3<|QI [] [] [0] (.slice A2 xs.length c3) (ap [] [T4]) ⟨(A2,c3,T4),rfl,by rw[hl.1.1],_,U8⟩
theorem pA(c:Nat)(F:HL):af1 56 #[.slice none 0 c] [] F (λ u H'=>∃x:Option Addr×Nat×HL,H'=ap [] [x.2.2]/\(u=.slice x.1 0 x.2.1/\ClS cT 106 [] x.1 x.2.1 x.2.2)):=by
 refine QG Tryz.func56<|OG 18<|QJ (.slice none 0 0) (ap [] []) ⟨(none,0,[]),rfl,rfl,.nil _ _ _⟩
theorem qE (c:Nat){xs:List Inp}(hl:SrcIn Tryz.prog cT F A n xs)(hb:n<=100000000):af1 56 #[.slice A n c] (ap [] []) F (λ u H'=>∃x:Option Addr×Nat×HL,H'=ap [] [x.2.2]/\(u=.slice x.1 n x.2.1/\ClS cT 106 xs x.1 x.2.1 x.2.2)):=by
 cases A with
 |some a=>exact pz c hl hb
 |none=>
  obtain rfl:n=0:=hl.1.2 rfl;obtain rfl:xs=[]:=aa6 hl.1.1;exact pA c F
end Go.Proofs.YtjokannbjmndfaaGreatDoor
