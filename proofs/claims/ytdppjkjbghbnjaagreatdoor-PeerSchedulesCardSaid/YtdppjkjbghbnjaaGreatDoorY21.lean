import Derived.Test.YtdppjkjbghbnjaaGreatDoorY20
set_option maxHeartbeats 4000000
set_option maxRecDepth 100000
set_option linter.all false
namespace Go.Proofs.YtdppjkjbghbnjaaGreatDoor
open Go.RowKit
theorem PeerI.fin{S:Setup}{J:Nat -> Nat × Int}{w:Nat}{TR:Nat -> List Inp}{P:PS (List Inp)}{V:List (List Inp)}{m k:Nat}(h:PeerI S J w TR P V m k)(h1:m=V.length)(h2:V.length=P.rows.length):V=P.rows:=by
 have h3:=h.inv.eq;rwa [h1,List.take_length,h2,List.take_length] at h3
theorem gH{α:Type}{l r:List α}{o n:Nat}(h:(l.drop o).take n=r){k:Nat}(hk:k<n){d:α}:l.getD (o+k) d=r.getD k d:=by
 have h1:((l.drop o).take n)[k]?=r[k]?:=by rw[h]
 rw[List.getElem?_take,if_pos hk,List.getElem?_drop] at h1;rw[List.getD_eq_getElem?_getD,List.getD_eq_getElem?_getD,h1]
theorem pG{rs_:List Bx}{ds_:List Dr}{bp pp pl me w:Nat}{S:Setup}{J:Nat -> Nat × Int}{P:PS (List Inp)}{kv:List (Int × Value × Nat)}{c sn:Nat}{TR:Nat -> List Inp}{V:List (List Inp)}{m:Nat}{G F:HL}(A A2:Option Addr)(n cap n2 VJ to:Nat)(xs ys:List Int)(h:PeerR rs_ ds_ bp pp pl me w S J P kv c sn none G)(hI:PeerI S J w TR P V m 0)(K_:TR=eD S xs)(hT:∀t,RowOk S.players (TR t))(hV:SetV S)(S9:me<pl)(hw:1 <= w /\ w <= 12)(hc:c=0)(oR:∀i,i <= 50 -> (J i).1<5 /\ AtOk F bp (i:Int) (J i))(hE:bF F)(Uj:ArgD F A n xs)(hn:n <= 9223372036854775807)(TM:ArgD F A2 n2 ys)(hn2:n2 <= 9223372036854775807)(hto:1 <= to /\ to <= 9)(hv0:V.length=0):Sp Tryz.prog 24 #[vP pp 0,(Setup.v S),.slice A n cap,.slice A2 n2 VJ,vI (to:Int)] (ap [] [G]) F (λ u H'=>∃y:(PS (List Inp) × List (Int × Value × Nat) × Nat × List (List Inp) × Nat) × HL,H'=ap [] [y.2] /\ (u=.bool true /\ PeerR rs_ ds_ bp pp pl me w S J y.1.1 y.1.2.1 y.1.2.2.1 sn none y.2 /\ PeerI S J w TR y.1.1 y.1.2.2.2.1 y.1.2.2.2.2 24 /\ y.1.2.2.1 <= 50*24 /\ y.1.2.2.2.1=y.1.1.rows /\ y.1.1.rows.length=to)):=by
 have ahC:=hI.lim;have ZS:=hV.pl;refine aav Tryz.func24 rfl mn (A:=[]) (Ts:=[G]) rfl λ w0=>?_;refine ae 9 [] λ n1=>aaj (Hp:=[]) (Tp:=[]) [] [] (TM.up.use λ F_ h_=>ko A2 n2 VJ ys F_ h_ hn2) ?_;rintro _ ⟨Ti,A3,c4,T5⟩ ⟨hk6,rfl,hs7⟩;dsimp only at hk6 hs7;refine ae 10 [] λ _=>aao (σ:=Nat × PS (List Inp) × List (Int × Value × Nat) × Nat × List (List Inp) × Nat × HL) (λ ⟨i_,P_,Vl,c_,V_,m_,G_⟩=>⟨[(0,vP pp 0),(2,.slice A n cap),(4,vI (to:Int)),(6,vP (n1+0) 0),(11,.slice A3 Ti c4),(12,vI (i_:Int))],[((n1+0),.lit (Setup.l S) 31 (0,0))],[G_,T5],i_ <= Ti /\ PeerR rs_ ds_ bp pp pl me w S J P_ Vl c_ sn none G_ /\ PeerI S J w TR P_ V_ m_ i_ /\ c_ <= 50*i_ /\ P_.rows.length <= to /\ V_.length <= to,Ti-i_⟩) (0,P,kv,c,V,m,G) [0] [1,0] (⟨Nat.zero_le _,h,hI,by omega,by omega,by omega⟩) ?_;rintro⟨i_,P_,Vl,c_,V_,m_,G_⟩ ⟨Xc,No,C_,Uv,TY,ZD⟩ Uy;have X5:=C_.lim;have XV:=C_.vlen;have S7:=C_.t0 hV (by omega);refine ae 9 [] λ _=>aam ((i_:Int)<(Ti:Int)) 21 (λ VU=>?_) λ VU=>?_
 ·refine ae 8 [] λ _=>?_;have I_:=iM TM (k:=Ti) (by omega) (i:=i_) (by omega);obtain⟨ba_,aT,Ta,rfl,rfl,aeL,X6,Vw⟩:=hs7.resolve_left (λ h_=>by have VH:=congrArg List.length h_.2.2.1;rw[bg,List.length_nil] at VH;omega);rw[bg] at X6 Vw;rw[<- gH Vw (by omega)] at I_;refine pS 1 (x:=(ba_,.rows 3 (aT+c4) (aL bd Ta) 54 (0,0)))<|ah 7 [.ix i_,.row 0 (aT+i_) 0] [(aT*3+i_*3)=(aT+i_)*3+0 /\ (aT+i_)<(aT+c4),(i_:Int)=((i_:Nat):Int) /\ i_<Ti] λ _=>aam ((Ta.getD (aT+i_) bd.dflt).dO=1) 30 (λ Vd=>?_) λ Vd=>?_
  ·refine ae 1 [] λ _=>aai (cy No (ak 0))<|ae 5 [] λ _=>aam ((P_.rows.length:Int) >= (to:Int)) 35 (λ Uq=>?_) λ Uq=>?_
   ·refine ah 10 [.nw] [aI ((i_:Int)+1)] λ _=>cH 0 ?_;refine Uy (i_+1,P_,Vl,c_,V_,m_,G_) [0] [1,0] ?_
    try dsimp only
    exact⟨⟨by omega,No,C_.more (by omega),by omega,TY,ZD⟩,by omega⟩
   ·refine ae 5 [] λ _=>aal [] []<|av [] [0,1,2,3,4,5,6] [.ix i_,.row 0 (aT+i_) 0] [(aT*3+i_*3)=(aT+i_)*3+0 /\ (aT+i_)<(aT+c4),(i_:Int)=((i_:Nat):Int) /\ i_<Ti]<|RD.em ((Ta.getD (aT+i_) bd.dflt).dO>1) 42 (λ Vc=>?_) λ Vc=>?_
    ·refine av [] [7,9,10,15,11,12,13] [.ix i_,.row 0 (aT+i_) 1] [((aT*3+i_*3)+1)=(aT+i_)*3+1 /\ (aT+i_)<(aT+c4),(i_:Int)=((i_:Nat):Int) /\ i_<Ti]<|aac [] 8 (λ X_=>(fm No (aE 0) S7))<|av [] [14,16,17] [.nw] [aI ((V_.length:Int)+((Ta.getD (aT+i_) bd.dflt).bY))]<|aad<|ae 1 [] λ _=>aam ((V_.length:Int)+((Ta.getD (aT+i_) bd.dflt).bY)>(to:Int)) 53 (λ VT=>?_) λ VT=>?_
     ·refine ah 10 [.nw] [aI ((i_:Int)+1)] λ _=>cH 0 ?_;refine Uy (i_+1,P_,Vl,c_,V_,m_,G_) [0] [1,0] ?_
      try dsimp only
      exact⟨⟨by omega,No,C_.more (by omega),by omega,TY,ZD⟩,by omega⟩
     ·refine ah 13 [.ix i_,.row 0 (aT+i_) 0] [(aT*3+i_*3)=(aT+i_)*3+0 /\ (aT+i_)<(aT+c4),(i_:Int)=((i_:Nat):Int) /\ i_<Ti] λ _=>aam ((Ta.getD (aT+i_) bd.dflt).dO=4) 60 (λ YF=>?_) λ YF=>?_
      ·refine ae 1 [] λ _=>aai (cy No (ak 0))<|ae 5 [] λ _=>bL 65 (decide_eq_false Uq)<|ae 3 [] λ _=>aal [7] []<|av [] [0,1,2,3,4,5,6] (ow 1 16++[.ix i_,.row 0 (aT+i_) 0,.row 0 (aT+i_) 1,.row 0 (aT+i_) 2]) [((aT*3+i_*3)+2)=(aT+i_)*3+2 /\ (aT+i_)<(aT+c4),((aT*3+i_*3)+1)=(aT+i_)*3+1 /\ (aT+i_)<(aT+c4),(aT*3+i_*3)=(aT+i_)*3+0 /\ (aT+i_)<(aT+c4),(i_:Int)=((i_:Nat):Int) /\ i_<Ti]<|aae 7 (aaf [] [] [0] (eV A n cap xs (Ta.getD (aT+i_) bd.dflt) No C_ K_ hT hV S9 hw (by omega) Uv (λ i hi=>⟨(oR i hi).1,(oR i hi).2.mono λ x hx=>aq hx⟩) (aq hE) Uj.up hn I_) ?_);rintro _ ⟨⟨n16,e17,P18,ad5,c20,V21,m22⟩,Zg⟩ ⟨rfl,XX,aa2,aaz,aa8⟩;dsimp only at XX aa2 aaz aa8;refine aad<|ah 7 [.nw] [aI ((i_:Int)+1)] λ _=>cH 0 ?_;refine Uy (i_+1,P18,ad5,c20,V21,m22,Zg) [0] [1,0] ?_
       try dsimp only
       unfold sD gQ at aa8;exact⟨⟨by omega,XX,aa2,aaz,by omega,by omega⟩,by omega⟩
      ·refine ae 10 [] λ _=>aal [7] []<|av [] [0,1,2,3,4,5,6] (ow 1 16++[.ix i_,.row 0 (aT+i_) 0,.row 0 (aT+i_) 1,.row 0 (aT+i_) 2]) [((aT*3+i_*3)+2)=(aT+i_)*3+2 /\ (aT+i_)<(aT+c4),((aT*3+i_*3)+1)=(aT+i_)*3+1 /\ (aT+i_)<(aT+c4),(aT*3+i_*3)=(aT+i_)*3+0 /\ (aT+i_)<(aT+c4),(i_:Int)=((i_:Nat):Int) /\ i_<Ti]<|aae 7 (aaf [] [] [0] (eV A n cap xs (Ta.getD (aT+i_) bd.dflt) No C_ K_ hT hV S9 hw (by omega) Uv (λ i hi=>⟨(oR i hi).1,(oR i hi).2.mono λ x hx=>aq hx⟩) (aq hE) Uj.up hn I_) ?_);rintro _ ⟨⟨n28,e29,P30,ad2,c32,V33,m34⟩,T35⟩ ⟨rfl,W0,aa1,aay,aa7⟩;dsimp only at W0 aa1 aay aa7;refine aad<|ah 7 [.nw] [aI ((i_:Int)+1)] λ _=>cH 0 ?_;refine Uy (i_+1,P30,ad2,c32,V33,m34,T35) [0] [1,0] ?_
       try dsimp only
       unfold sD gQ at aa7;exact⟨⟨by omega,W0,aa1,aay,by omega,by omega⟩,by omega⟩
    ·refine ag [] [7,9,10,15,8,11,12,13,14,16,17] []<|aad<|ah 14 [.ix i_,.row 0 (aT+i_) 0] [(aT*3+i_*3)=(aT+i_)*3+0 /\ (aT+i_)<(aT+c4),(i_:Int)=((i_:Nat):Int) /\ i_<Ti] λ _=>aam ((Ta.getD (aT+i_) bd.dflt).dO=4) 60 (λ h40=>?_) λ h40=>?_
     ·refine ae 1 [] λ _=>aai (cy No (ak 0))<|ae 5 [] λ _=>bL 65 (decide_eq_false Uq)<|ae 3 [] λ _=>aal [7] []<|av [] [0,1,2,3,4,5,6] (ow 1 16++[.ix i_,.row 0 (aT+i_) 0,.row 0 (aT+i_) 1,.row 0 (aT+i_) 2]) [((aT*3+i_*3)+2)=(aT+i_)*3+2 /\ (aT+i_)<(aT+c4),((aT*3+i_*3)+1)=(aT+i_)*3+1 /\ (aT+i_)<(aT+c4),(aT*3+i_*3)=(aT+i_)*3+0 /\ (aT+i_)<(aT+c4),(i_:Int)=((i_:Nat):Int) /\ i_<Ti]<|aae 7 (aaf [] [] [0] (eV A n cap xs (Ta.getD (aT+i_) bd.dflt) No C_ K_ hT hV S9 hw (by omega) Uv (λ i hi=>⟨(oR i hi).1,(oR i hi).2.mono λ x hx=>aq hx⟩) (aq hE) Uj.up hn I_) ?_);rintro _ ⟨⟨n41,e42,P43,ad1,c45,V46,m47⟩,T48⟩ ⟨rfl,ZJ,aa0,aax,aa6⟩;dsimp only at ZJ aa0 aax aa6;refine aad<|ah 7 [.nw] [aI ((i_:Int)+1)] λ _=>cH 0 ?_;refine Uy (i_+1,P43,ad1,c45,V46,m47,T48) [0] [1,0] ?_
      try dsimp only
      unfold sD gQ at aa6;exact⟨⟨by omega,ZJ,aa0,aax,by omega,by omega⟩,by omega⟩
     ·refine ae 10 [] λ _=>aal [7] []<|av [] [0,1,2,3,4,5,6] (ow 1 16++[.ix i_,.row 0 (aT+i_) 0,.row 0 (aT+i_) 1,.row 0 (aT+i_) 2]) [((aT*3+i_*3)+2)=(aT+i_)*3+2 /\ (aT+i_)<(aT+c4),((aT*3+i_*3)+1)=(aT+i_)*3+1 /\ (aT+i_)<(aT+c4),(aT*3+i_*3)=(aT+i_)*3+0 /\ (aT+i_)<(aT+c4),(i_:Int)=((i_:Nat):Int) /\ i_<Ti]<|aae 7 (aaf [] [] [0] (eV A n cap xs (Ta.getD (aT+i_) bd.dflt) No C_ K_ hT hV S9 hw (by omega) Uv (λ i hi=>⟨(oR i hi).1,(oR i hi).2.mono λ x hx=>aq hx⟩) (aq hE) Uj.up hn I_) ?_);rintro _ ⟨⟨n53,e54,P55,ad0,c57,V58,m59⟩,T60⟩ ⟨rfl,ZI,aaZ,Z_,aa5⟩;dsimp only at ZI aaZ Z_ aa5;refine aad<|ah 7 [.nw] [aI ((i_:Int)+1)] λ _=>cH 0 ?_;refine Uy (i_+1,P55,ad0,c57,V58,m59,T60) [0] [1,0] ?_
      try dsimp only
      unfold sD gQ at aa5;exact⟨⟨by omega,ZI,aaZ,Z_,by omega,by omega⟩,by omega⟩
  ·refine ae 12 [] λ _=>aal [] []<|av [] [0,1,2,3,4,5,6] [.ix i_,.row 0 (aT+i_) 0] [(aT*3+i_*3)=(aT+i_)*3+0 /\ (aT+i_)<(aT+c4),(i_:Int)=((i_:Nat):Int) /\ i_<Ti]<|RD.em ((Ta.getD (aT+i_) bd.dflt).dO>1) 42 (λ h65=>?_) λ h65=>?_
   ·refine av [] [7,9,10,15,11,12,13] [.ix i_,.row 0 (aT+i_) 1] [((aT*3+i_*3)+1)=(aT+i_)*3+1 /\ (aT+i_)<(aT+c4),(i_:Int)=((i_:Nat):Int) /\ i_<Ti]<|aac [] 8 (λ X_=>(fm No (aE 0) S7))<|av [] [14,16,17] [.nw] [aI ((V_.length:Int)+((Ta.getD (aT+i_) bd.dflt).bY))]<|aad<|ae 1 [] λ _=>aam ((V_.length:Int)+((Ta.getD (aT+i_) bd.dflt).bY)>(to:Int)) 53 (λ h66=>?_) λ h66=>?_
    ·refine ah 10 [.nw] [aI ((i_:Int)+1)] λ _=>cH 0 ?_;refine Uy (i_+1,P_,Vl,c_,V_,m_,G_) [0] [1,0] ?_
     try dsimp only
     exact⟨⟨by omega,No,C_.more (by omega),by omega,TY,ZD⟩,by omega⟩
    ·refine ah 13 [.ix i_,.row 0 (aT+i_) 0] [(aT*3+i_*3)=(aT+i_)*3+0 /\ (aT+i_)<(aT+c4),(i_:Int)=((i_:Nat):Int) /\ i_<Ti] λ _=>aam ((Ta.getD (aT+i_) bd.dflt).dO=4) 60 (λ h67=>?_) λ h67=>?_
     ·refine ae 1 [] λ _=>aai (cy No (ak 0))<|ae 5 [] λ _=>aam ((P_.rows.length:Int) >= (to:Int)) 65 (λ h68=>?_) λ h68=>?_
      ·refine ah 10 [.nw] [aI ((i_:Int)+1)] λ _=>cH 0 ?_;refine Uy (i_+1,P_,Vl,c_,V_,m_,G_) [0] [1,0] ?_
       try dsimp only
       exact⟨⟨by omega,No,C_.more (by omega),by omega,TY,ZD⟩,by omega⟩
      ·refine ae 3 [] λ _=>aal [7] []<|av [] [0,1,2,3,4,5,6] (ow 1 16++[.ix i_,.row 0 (aT+i_) 0,.row 0 (aT+i_) 1,.row 0 (aT+i_) 2]) [((aT*3+i_*3)+2)=(aT+i_)*3+2 /\ (aT+i_)<(aT+c4),((aT*3+i_*3)+1)=(aT+i_)*3+1 /\ (aT+i_)<(aT+c4),(aT*3+i_*3)=(aT+i_)*3+0 /\ (aT+i_)<(aT+c4),(i_:Int)=((i_:Nat):Int) /\ i_<Ti]<|aae 7 (aaf [] [] [0] (eV A n cap xs (Ta.getD (aT+i_) bd.dflt) No C_ K_ hT hV S9 hw (by omega) Uv (λ i hi=>⟨(oR i hi).1,(oR i hi).2.mono λ x hx=>aq hx⟩) (aq hE) Uj.up hn I_) ?_);rintro _ ⟨⟨n69,e70,P71,abT,c73,V74,m75⟩,T76⟩ ⟨rfl,Wx,UE,Ye,Xq⟩;dsimp only at Wx UE Ye Xq;refine aad<|ah 7 [.nw] [aI ((i_:Int)+1)] λ _=>cH 0 ?_;refine Uy (i_+1,P71,abT,c73,V74,m75,T76) [0] [1,0] ?_
       try dsimp only
       unfold sD gQ at Xq;exact⟨⟨by omega,Wx,UE,Ye,by omega,by omega⟩,by omega⟩
     ·refine ae 10 [] λ _=>aal [7] []<|av [] [0,1,2,3,4,5,6] (ow 1 16++[.ix i_,.row 0 (aT+i_) 0,.row 0 (aT+i_) 1,.row 0 (aT+i_) 2]) [((aT*3+i_*3)+2)=(aT+i_)*3+2 /\ (aT+i_)<(aT+c4),((aT*3+i_*3)+1)=(aT+i_)*3+1 /\ (aT+i_)<(aT+c4),(aT*3+i_*3)=(aT+i_)*3+0 /\ (aT+i_)<(aT+c4),(i_:Int)=((i_:Nat):Int) /\ i_<Ti]<|aae 7 (aaf [] [] [0] (eV A n cap xs (Ta.getD (aT+i_) bd.dflt) No C_ K_ hT hV S9 hw (by omega) Uv (λ i hi=>⟨(oR i hi).1,(oR i hi).2.mono λ x hx=>aq hx⟩) (aq hE) Uj.up hn I_) ?_);rintro _ ⟨⟨n81,e82,P83,abS,c85,V86,m87⟩,T88⟩ ⟨rfl,Ww,U9,Yd,Xp⟩;dsimp only at Ww U9 Yd Xp;refine aad<|ah 7 [.nw] [aI ((i_:Int)+1)] λ _=>cH 0 ?_;refine Uy (i_+1,P83,abS,c85,V86,m87,T88) [0] [1,0] ?_
      try dsimp only
      unfold sD gQ at Xp;exact⟨⟨by omega,Ww,U9,Yd,by omega,by omega⟩,by omega⟩
   ·refine ag [] [7,9,10,15,8,11,12,13,14,16,17] []<|aad<|ah 14 [.ix i_,.row 0 (aT+i_) 0] [(aT*3+i_*3)=(aT+i_)*3+0 /\ (aT+i_)<(aT+c4),(i_:Int)=((i_:Nat):Int) /\ i_<Ti] λ _=>aam ((Ta.getD (aT+i_) bd.dflt).dO=4) 60 (λ h93=>?_) λ h93=>?_
    ·refine ae 1 [] λ _=>aai (cy No (ak 0))<|ae 5 [] λ _=>aam ((P_.rows.length:Int) >= (to:Int)) 65 (λ h94=>?_) λ h94=>?_
     ·refine ah 10 [.nw] [aI ((i_:Int)+1)] λ _=>cH 0 ?_;refine Uy (i_+1,P_,Vl,c_,V_,m_,G_) [0] [1,0] ?_
      try dsimp only
      exact⟨⟨by omega,No,C_.more (by omega),by omega,TY,ZD⟩,by omega⟩
     ·refine ae 3 [] λ _=>aal [7] []<|av [] [0,1,2,3,4,5,6] (ow 1 16++[.ix i_,.row 0 (aT+i_) 0,.row 0 (aT+i_) 1,.row 0 (aT+i_) 2]) [((aT*3+i_*3)+2)=(aT+i_)*3+2 /\ (aT+i_)<(aT+c4),((aT*3+i_*3)+1)=(aT+i_)*3+1 /\ (aT+i_)<(aT+c4),(aT*3+i_*3)=(aT+i_)*3+0 /\ (aT+i_)<(aT+c4),(i_:Int)=((i_:Nat):Int) /\ i_<Ti]<|aae 7 (aaf [] [] [0] (eV A n cap xs (Ta.getD (aT+i_) bd.dflt) No C_ K_ hT hV S9 hw (by omega) Uv (λ i hi=>⟨(oR i hi).1,(oR i hi).2.mono λ x hx=>aq hx⟩) (aq hE) Uj.up hn I_) ?_);rintro _ ⟨⟨n95,e96,P97,adZ,c99,afK,adW⟩,afO⟩ ⟨rfl,W7,Xn,Xj,Xs⟩;dsimp only at W7 Xn Xj Xs;refine aad<|ah 7 [.nw] [aI ((i_:Int)+1)] λ _=>cH 0 ?_;refine Uy (i_+1,P97,adZ,c99,afK,adW,afO) [0] [1,0] ?_
      try dsimp only
      unfold sD gQ at Xs;exact⟨⟨by omega,W7,Xn,Xj,by omega,by omega⟩,by omega⟩
    ·refine ae 10 [] λ _=>aal [7] []<|av [] [0,1,2,3,4,5,6] (ow 1 16++[.ix i_,.row 0 (aT+i_) 0,.row 0 (aT+i_) 1,.row 0 (aT+i_) 2]) [((aT*3+i_*3)+2)=(aT+i_)*3+2 /\ (aT+i_)<(aT+c4),((aT*3+i_*3)+1)=(aT+i_)*3+1 /\ (aT+i_)<(aT+c4),(aT*3+i_*3)=(aT+i_)*3+0 /\ (aT+i_)<(aT+c4),(i_:Int)=((i_:Nat):Int) /\ i_<Ti]<|aae 7 (aaf [] [] [0] (eV A n cap xs (Ta.getD (aT+i_) bd.dflt) No C_ K_ hT hV S9 hw (by omega) Uv (λ i hi=>⟨(oR i hi).1,(oR i hi).2.mono λ x hx=>aq hx⟩) (aq hE) Uj.up hn I_) ?_);rintro _ ⟨⟨n107,anq,afT,Zq,afE,afJ,adV⟩,afN⟩ ⟨rfl,W6,Xm,Xh,Xr⟩;dsimp only at W6 Xm Xh Xr;refine aad<|ah 7 [.nw] [aI ((i_:Int)+1)] λ _=>cH 0 ?_;refine Uy (i_+1,afT,Zq,afE,afJ,adV,afN) [0] [1,0] ?_
     try dsimp only
     unfold sD gQ at Xr;exact⟨⟨by omega,W6,Xm,Xh,by omega,by omega⟩,by omega⟩
 ·refine ae 8 [] λ _=>aao (σ:=PS (List Inp) × List (Int × Value × Nat) × HL) (λ ⟨Q_,kw_,Ys⟩=>⟨[(0,vP pp 0),(2,.slice A n cap),(4,vI (to:Int)),(6,vP (n1+0) 0)],[((n1+0),.lit (Setup.l S) 31 (0,0))],[Ys,T5],PeerR rs_ ds_ bp pp pl me w S J Q_ kw_ c_ sn none Ys /\ PeerI S J w TR Q_ V_ m_ (14+Q_.rows.length) /\ c_ <= 50*14 /\ Q_.rows.length <= to,to-Q_.rows.length⟩) (P_,Vl,G_) [0] [0,1] (⟨No,C_.more (by omega),by omega,TY⟩) ?_;rintro⟨Q_,kw_,Ys⟩ ⟨WL,Uk,US,alc⟩ Zo;have ahB:=Uk.lim;have agR:=Uk.vlen;have anc:=Uk.t0 hV (by omega);refine ae 4 [] λ _=>aai (cy WL (ak 0))<|ae 4 [] λ _=>aam ((Q_.rows.length:Int)<(to:Int)) 77 (λ afp=>?_) λ afp=>?_
  ·refine ae 7 [] λ _=>aai (cy WL (ak 0))<|ae 10 (ow 0 16) λ _=>aaj (Hp:=[]) (Tp:=[]) [] [] (Uj.up.use λ F_ h_=>dp S A n cap xs (Q_.rows.length:Int) F_ h_ hn (by omega) (by omega)) ?_;rintro _ ⟨an0,afD,anO⟩ ⟨rfl,W5,Zy⟩;dsimp only at W5 Zy;refine aaj [] [1] (jz (cc:=afD) WL Uk hT hV (by omega) (by omega) (W5.rowN (ak 0) (bV _ _ _ _)) (by rw[K_]) rfl) ?_;rintro _ afM ⟨rfl,ZK,aa3⟩;refine ae 6 [] λ _=>?_;refine Zo ((dD Q_ (TR Q_.rows.length)),(jy kw_ (Q_.rows.length:Int)),afM) [0] [0,2] ?_
   try dsimp only
   have WH:(dD Q_ (TR Q_.rows.length)).rows.length=Q_.rows.length+1:=by show (Q_.rows++[_]).length=_;simp
   exact⟨⟨ZK,by rw[WH];exact aa3,by omega,by rw[WH];omega⟩,by rw[WH];omega⟩
  ·refine ae 10 [] λ _=>aaj [] [0] (oU (tt:=(to:Int)) WL Uk hT hV S9 hw (by omega) (by omega) (λ i hi=>⟨(oR i hi).1,(oR i hi).2.mono λ x hx=>aq hx⟩) (aq hE)) ?_;rintro _ ⟨⟨n130,afv,abq,Zp,abh,afI,adU⟩,abm⟩ ⟨rfl,W4,VF,aaA,Xu⟩;dsimp only at W4 VF aaA Xu;unfold gQ at Xu;obtain rfl:afv=0:=by omega
   refine ae 14 [] λ _=>aaq [] [] [0] (v:=.bool true) (H':=(ap [] [abm])) ?_;exact⟨((abq,Zp,abh,afI,adU),abm),rfl,rfl,W4,VF.more (by omega),by show abh <= _;omega,VF.fin (by omega) (by omega),by show abq.rows.length=to;omega⟩
theorem mv{rs_:List Bx}{ds_:List Dr}{bp pp pl me w:Nat}{S:Setup}{J:Nat -> Nat × Int}{P:PS (List Inp)}{kv:List (Int × Value × Nat)}{c sn:Nat}{TR:Nat -> List Inp}{V:List (List Inp)}{m:Nat}{G F:HL}(A A2:Option Addr)(n cap n2 VJ to:Nat)(xs ys:List Int)(h:PeerR rs_ ds_ bp pp pl me w S J P kv c sn none G)(hI:PeerI S J w TR P V m 0)(K_:TR=eD S xs)(hT:∀t,RowOk S.players (TR t))(hV:SetV S)(S9:me<pl)(hw:1 <= w /\ w <= 12)(hc:c=0)(oR:∀i,i <= 50 -> (J i).1<5 /\ AtOk F bp (i:Int) (J i))(hE:bF F)(Uj:ArgD F A n xs)(hn:n <= 9223372036854775807)(TM:ArgD F A2 n2 ys)(hn2:n2 <= 9223372036854775807)(hto:1 <= to /\ to <= 9)(hv0:V.length=0){ti:Int}(hti:ti=(to:Int)):Sp Tryz.prog 24 #[vP pp 0,Setup.v S,.slice A n cap,.slice A2 n2 VJ,vI ti] (ap [] [G]) F (λ u H'=>∃y:(PS (List Inp) × List (Int × Value × Nat) × Nat × List (List Inp) × Nat) × HL,H'=ap [] [y.2] /\ (u=.bool true /\ PeerR rs_ ds_ bp pp pl me w S J y.1.1 y.1.2.1 y.1.2.2.1 sn none y.2 /\ PeerI S J w TR y.1.1 y.1.2.2.2.1 y.1.2.2.2.2 24 /\ y.1.2.2.1 <= 50*24 /\ y.1.2.2.2.1=y.1.1.rows /\ y.1.1.rows.length=to)):=by subst hti;exact pG A A2 n cap n2 VJ to xs ys h hI K_ hT hV S9 hw hc oR hE Uj hn TM hn2 hto hv0
theorem uU{ρ:Type}(g:Nat -> ρ -> Gm):∀ (V:List ρ) (t:Nat) (c:List Int) (i:Nat),((uG g t c V).getD i []).length <= 1001
 | [],_,_,i=>by simp[uG]
 | r::V,t,c,0=>by rw[uG,List.getD_cons_zero];exact kR _ _
 | r::V,t,c,i+1=>by rw[uG,List.getD_cons_succ];exact uU g V _ _ i
section
variable {S:Setup} {J:Nat -> Nat × Int} {w:Nat} {TR:Nat -> List Inp} {P:PS (List Inp)} {V:List (List Inp)} {m k:Nat}
theorem PeerI.rowsR{xs:List Int}(h:PeerI S J w (eD S xs) P V m k){n:Nat}(hn:P.rows.length=n):P.rows=ay S.players xs n:=by
 have:=h.rows;rw[hn] at this;exact this
theorem PeerI.cells(h:PeerI S J w TR P V m k)(hv:V=P.rows){n:Nat}(hn:P.rows.length=n):P.M.cs=WS S J P.rows n:=by
 have h1:=h.inv.ws;rw[hv,hn] at h1;exact h1
theorem PeerI.effsV(h:PeerI S J w TR P V m k):P.effs=uG (gP S J) 0 (aH S S.nb) V:=h.inv.effs
theorem PeerI.eff_len(h:PeerI S J w TR P V m k)(t:Nat):(P.effs.getD t []).length <= 1001:=by
 rw[h.effsV];exact uU _ _ _ _ _
end
end Go.Proofs.YtdppjkjbghbnjaaGreatDoor
