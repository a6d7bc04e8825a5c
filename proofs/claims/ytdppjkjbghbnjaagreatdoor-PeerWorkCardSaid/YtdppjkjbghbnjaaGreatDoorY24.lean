import Derived.Test.YtdppjkjbghbnjaaGreatDoorY15
set_option maxHeartbeats 4000000
set_option maxRecDepth 100000
set_option linter.all false
namespace Go.Proofs.YtdppjkjbghbnjaaGreatDoor
open Go.RowKit
theorem LM(A0:Option Addr)(n0 c0:Nat)(xs:List Int)(A3a:Option Addr)(n3a c3a:Nat)(x3a:List Int)(WM:Option Addr)(Vk Yr:Nat)(q_:List Int)(i1 i2:Int)(F:HL)(Xo:mF F)(Um:bF F)(Uu:ArgD F A0 n0 xs)(Ul:n0 <= 9223372036854775807)(ach:ArgD F A3a n3a x3a)(aeA:n3a <= 9223372036854775807)(TC:ArgD F WM Vk q_)(VY:Vk <= 9223372036854775807)(hi1:fH i1)(WN:fH i2):Sp Tryz.prog 4 #[.slice A0 n0 c0,vI i1,vI i2,.slice A3a n3a c3a,.slice WM Vk Yr] [] F (λ u H'=>u=.bool true /\ H'=[]):=by
 refine aav Tryz.func4 rfl mn (A:=[]) (Ts:=[]) rfl λ w0=>?_;refine ae 8 [] λ _=>aaj (Hp:=[]) (Tp:=[]) [] [] (Uu.up.use λ F_ h_=>lu A0 n0 c0 xs _ h_ Ul) ?_;rintro _ ⟨S,TS⟩ ⟨rfl,hG⟩;dsimp only at hG;have hF:=uL Uu hG;have hpl:=hF.pl;have U7:=hF.nb;have TW:=hF.rn;have VQ:=hF.dn;have S4:=hF.sz;have Ve:=gx S S.nb;have hV:SetV S:=Uu.ex.elim λ _ h_=>setV h_ hG;obtain⟨pl,Vr⟩:∃pl:Nat,S.players=(pl:Int):=⟨S.players.toNat,by omega⟩;have K_:∀t,RowOk S.players (eD S x3a t):=λ t=>ach.ex.elim λ _ h_=>kQ h_ (by omega) _;refine ae 7 (ow 0 16) λ n1=>?_;obtain⟨Tb,ae5,ah_⟩:∃k:Nat,ai i2 12=(k:Int) /\ (k:Int)<12:=⟨(ai i2 12).toNat,by have h_:=aA (n:=i2) WN 12 (by decide);omega,by have h_:=aA (n:=i2) WN 12 (by decide);omega⟩;refine aai (g9 ae5 (by decide) _)<|ah 5 [.nw] [aI (1+(Tb:Int))] λ _=>aal [] []<|ag [] [0,2,3,6,4] (ow 0 17)<|aae 1 (aaf [] (Hp:=[]) (Tp:=[]) [] [] (gG 2 3 _ (by decide) (by decide) (aq Xo)) ?_);rintro _ ⟨b3,T4⟩ ⟨rfl,UG⟩;dsimp only at UG;obtain⟨iF,Wg,RW⟩:∃j,(ai 2 5).toNat=j /\ j<5:=⟨_,rfl,by have h_:=aA (n:=2) (by decide) 5 (by decide);omega⟩;obtain⟨rW,Yp,Uo⟩:∃j,(ai 3 5).toNat=j /\ j<5:=⟨_,rfl,by have h_:=aA (n:=3) (by decide) 5 (by decide);omega⟩;rw[Wg,Yp] at UG;obtain⟨D_,Yf,aaF⟩:∃k:Nat,ai i1 S.players=(k:Int) /\ (k:Int)<S.players:=⟨(ai i1 S.players).toNat,by have h_:=aA (n:=i1) hi1 S.players (by omega);omega,by have h_:=aA (n:=i1) hi1 S.players (by omega);omega⟩;refine aac [] 5 (λ X_=>(g9 Yf (by omega) _))<|aae 7 (aaf [] (Hp:=[]) (Tp:=[]) [] [] (eO S j8 (gD (kv xs 3 % 3).toNat) b3 pl D_ (1+Tb) (dN 3 iF rW 0) _ (hG.sin _ (az 1) (ak 1)).cl (hG.maps.2 _ (ak 1)) (by omega) (by omega) (by omega) (by omega) hF.val Vr (by omega) (by omega) (mi:=(D_:Int)) (wi:=(1+(Tb:Int))) (by omega) (by omega)) ?_);rintro _ ⟨p7,T8⟩ ⟨rfl,hr9⟩;dsimp only at hr9;have aaY:PeerI S (dN 3 iF rW 0) (1+Tb) (eD S x3a) (⟨⟨aH S S.nb,[],0⟩,0,[],[],0,[],[],0⟩:PS (List Inp)) [] 0 0:=fZ S (dN 3 iF rW 0) (1+Tb) (eD S x3a) 0;obtain⟨Pp7,Yq⟩:∃x,(⟨⟨aH S S.nb,[],0⟩,0,[],[],0,[],[],0⟩:PS (List Inp))=x:=⟨_,rfl⟩;rw[Yq] at hr9 aaY;have YH:([]:List (List Inp)).length=0:=rfl;have agy:Pp7.rows.length=0:=by rw[<- Yq];rfl
 have agz:Pp7.rb=0:=by subst Yq;rfl
 refine ag [] [8] []<|aad<|ae 14 [] λ _=>aaj (Hp:=[]) (Tp:=[]) [] [] (TC.up.use λ F_ h_=>ko WM Vk Yr q_ F_ h_ VY) ?_;rintro _ ⟨WW,A11,YZ,TO⟩ ⟨alO,rfl,ahb⟩;dsimp only at alO ahb;refine ae 10 [] λ _=>aao (σ:=Nat × PS (List Inp) × List (Int × Value × Nat) × Nat × List (List Inp) × Nat × HL) (λ ⟨i_,P_,Vl,c_,V_,m_,G_⟩=>⟨[(3,.slice A3a n3a c3a),(11,vP (n1+0) 0),(12,vI (1+(Tb:Int))),(13,vP p7 0),(14,.slice A11 WW YZ),(15,vI (i_:Int))],[((n1+0),.lit (Setup.l S) 31 (0,0)),(S.bb,.rows 9 S.bR (kW S.bods) 90 (0,0))],[G_,TO,T4,TS],i_ <= WW /\ PeerR j8 (gD (kv xs 3 % 3).toNat) b3 p7 pl D_ (1+Tb) S (dN 3 iF rW 0) P_ Vl c_ 0 none G_ /\ PeerI S (dN 3 iF rW 0) (1+Tb) (eD S x3a) P_ V_ m_ i_ /\ c_ <= 50*i_,WW-i_⟩) (0,Pp7,[],0,([]:List (List Inp)),0,T8) [0,1] [1,0,2,3] (⟨Nat.zero_le _,hr9,aaY,Nat.zero_le _⟩) ?_;rintro⟨i_,P_,Vl,c_,V_,m_,G_⟩ ⟨Xc,No,C_,Uv⟩ XP;have X5:=C_.lim;have XV:=C_.vlen;refine ae 9 [] λ _=>aam ((i_:Int)<(WW:Int)) 41 (λ h18=>?_) λ h18=>?_
 ·refine ae 8 [] λ _=>aai (fm No (ak 0) (C_.t0 hV (by have h_:=C_.vlen;have R_:=C_.lim;omega)))<|ae 6 [] λ _=>aai (pE No (ak 0))<|ae 4 [] λ _=>?_;have I_:=iM TC (k:=WW) (by omega) (i:=i_) (by omega);obtain⟨ba_,aT,Ta,rfl,rfl,aeL,X6,Vw⟩:=ahb.resolve_left (λ h_=>by have VH:=congrArg List.length h_.2.2.1;rw[bg,List.length_nil] at VH;omega);rw[bg] at X6 Vw;rw[<- gH Vw (by omega)] at I_;refine pS 1 (x:=(ba_,.rows 3 (aT+YZ) (aL bd Ta) 54 (0,0)))<|aal [7] []<|av [] [0,1,2,3,4,5,6] (ow 1 16++[.ix i_,.row 0 (aT+i_) 0,.row 0 (aT+i_) 1,.row 0 (aT+i_) 2]) [((aT*3+i_*3)+2)=(aT+i_)*3+2 /\ (aT+i_)<(aT+YZ),((aT*3+i_*3)+1)=(aT+i_)*3+1 /\ (aT+i_)<(aT+YZ),(aT*3+i_*3)=(aT+i_)*3+0 /\ (aT+i_)<(aT+YZ),(i_:Int)=((i_:Nat):Int) /\ i_<WW]<|aae 7 (aaf [] [] [0] (eV A3a n3a c3a x3a (Ta.getD (aT+i_) bd.dflt) No C_ rfl K_ hV (by omega) (by omega) (by omega) Uv (λ i hi=>gl UG (ak 0) RW Uo (t:=0+i) (by omega)) (aq Um) ach.up aeA I_) ?_);rintro _ ⟨⟨XO,e20,UK,Ws,c23,UY,m25⟩,T26⟩ ⟨rfl,H_,w_,Xg,aiy⟩;dsimp only at H_ w_ Xg aiy;have aox:=w_.vlen;have api:=w_.lim;unfold sD gQ at aiy;refine ag [] [8,9,10,11,12] []<|aad<|ah 11 [.ix i_,.row 0 (aT+i_) 0] [(aT*3+i_*3)=(aT+i_)*3+0 /\ (aT+i_)<(aT+YZ),(i_:Int)=((i_:Nat):Int) /\ i_<WW] λ _=>aam ((Ta.getD (aT+i_) bd.dflt).dO=2) 65 (λ Xw=>?_) λ Xw=>?_
  ·refine ae 13 [] λ _=>aai (fm H_ (ak 0) (w_.t0 hV (by have h_:=w_.vlen;have R_:=w_.lim;omega)))<|ah 11 [.nw] [aI ((UY.length:Int)-(V_.length:Int))] λ _=>aam (e20=0) 79 (λ XJ=>?_) λ XJ=>?_
   ·refine ae 4 [] λ _=>aam (XO<(UY.length:Int)-(V_.length:Int)) 83 (λ h33=>?_) λ h33=>?_
    ·(exfalso;omega)
    ·refine ah 7 [.nw] [aI (((UY.length:Int)-(V_.length:Int))+(1+(Tb:Int)))] λ _=>aam (XO>((UY.length:Int)-(V_.length:Int))+(1+(Tb:Int))) 90 (λ h34=>?_) λ h34=>?_
     ·(exfalso;omega)
     ·refine ae 4 [] λ _=>aai (pE H_ (ak 0))<|ah 3 [.nw] [aI ((P_.rb:Int)+1)] λ _=>aam (XO>(UY.length:Int)-(V_.length:Int)) 93 (λ h35=>?_) λ h35=>?_
      ·refine aam ((UK.rb:Int)=(P_.rb:Int)+1) 98 (λ h36=>?_) λ h36=>?_
       ·refine ae 13 [] λ _=>bL 104 (nt (decide_eq_true XJ))<|ae 21 [] λ _=>aai (fm H_ (ak 0) (w_.t0 hV (by have h_:=w_.vlen;have R_:=w_.lim;omega)))<|ae 1 [] λ _=>aai (cy H_ (ak 0))<|ah 5 [.nw] [aI ((UK.rows.length:Int)+(1+(Tb:Int)))] λ _=>aam ((UY.length:Int)>(UK.rows.length:Int)+(1+(Tb:Int))) 134 (λ h37=>?_) λ h37=>?_
        ·(exfalso;omega)
        ·refine ah 9 [.nw] [aI ((i_:Int)+1)] λ _=>cH 0 ?_;refine XP (i_+1,UK,Ws,c23,UY,m25,T26) [0,1] [1,0,2,3] ?_
         try dsimp only
         exact⟨⟨by omega,H_,w_,Xg⟩,by omega⟩
       ·(exfalso;omega)
      ·refine aam ((UK.rb:Int)=(P_.rb:Int)+1) 98 (λ h38=>?_) λ h38=>?_
       ·(exfalso;omega)
       ·refine ae 13 [] λ _=>bL 104 (nt (decide_eq_true XJ))<|ae 21 [] λ _=>aai (fm H_ (ak 0) (w_.t0 hV (by have h_:=w_.vlen;have R_:=w_.lim;omega)))<|ae 1 [] λ _=>aai (cy H_ (ak 0))<|ah 5 [.nw] [aI ((UK.rows.length:Int)+(1+(Tb:Int)))] λ _=>aam ((UY.length:Int)>(UK.rows.length:Int)+(1+(Tb:Int))) 134 (λ h39=>?_) λ h39=>?_
        ·(exfalso;omega)
        ·refine ah 9 [.nw] [aI ((i_:Int)+1)] λ _=>cH 0 ?_;refine XP (i_+1,UK,Ws,c23,UY,m25,T26) [0,1] [1,0,2,3] ?_
         try dsimp only
         exact⟨⟨by omega,H_,w_,Xg⟩,by omega⟩
   ·refine ae 32 [] λ _=>bL 104 (nf (decide_eq_false XJ))<|ae 3 [] λ _=>aan (XO=0) 107 (λ h40=>?_) λ h40=>?_
    ·refine ae 4 [] λ _=>aan ((UY.length:Int)-(V_.length:Int)=0) 111 (λ UX=>?_) λ UX=>?_
     ·refine ae 1 [] λ _=>aai (pE H_ (ak 0))<|ae 6 [] λ _=>aan ((UK.rb:Int)=(P_.rb:Int)) 117 (λ h42=>?_) λ h42=>?_
      ·refine ae 6 [] λ _=>aai (fm H_ (ak 0) (w_.t0 hV (by have h_:=w_.vlen;have R_:=w_.lim;omega)))<|ae 1 [] λ _=>aai (cy H_ (ak 0))<|ah 5 [.nw] [aI ((UK.rows.length:Int)+(1+(Tb:Int)))] λ _=>aam ((UY.length:Int)>(UK.rows.length:Int)+(1+(Tb:Int))) 134 (λ h43=>?_) λ h43=>?_
       ·(exfalso;omega)
       ·refine ah 9 [.nw] [aI ((i_:Int)+1)] λ _=>cH 0 ?_;refine XP (i_+1,UK,Ws,c23,UY,m25,T26) [0,1] [1,0,2,3] ?_
        try dsimp only
        exact⟨⟨by omega,H_,w_,Xg⟩,by omega⟩
      ·(exfalso;omega)
     ·(exfalso;omega)
    ·(exfalso;omega)
  ·refine ah 9 [.ix i_,.row 0 (aT+i_) 0] [(aT*3+i_*3)=(aT+i_)*3+0 /\ (aT+i_)<(aT+YZ),(i_:Int)=((i_:Nat):Int) /\ i_<WW] λ _=>aam ((Ta.getD (aT+i_) bd.dflt).dO=3) 72 (λ h44=>?_) λ h44=>?_
   ·refine ae 4 [] λ _=>aai (fm H_ (ak 0) (w_.t0 hV (by have h_:=w_.vlen;have R_:=w_.lim;omega)))<|ah 11 [.nw] [aI ((UY.length:Int)-(V_.length:Int))] λ _=>aam (e20=0) 79 (λ h45=>?_) λ h45=>?_
    ·refine ae 4 [] λ _=>aam (XO<(UY.length:Int)-(V_.length:Int)) 83 (λ h46=>?_) λ h46=>?_
     ·(exfalso;omega)
     ·refine ah 7 [.nw] [aI (((UY.length:Int)-(V_.length:Int))+(1+(Tb:Int)))] λ _=>aam (XO>((UY.length:Int)-(V_.length:Int))+(1+(Tb:Int))) 90 (λ h47=>?_) λ h47=>?_
      ·(exfalso;omega)
      ·refine ae 4 [] λ _=>aai (pE H_ (ak 0))<|ah 3 [.nw] [aI ((P_.rb:Int)+1)] λ _=>aam (XO>(UY.length:Int)-(V_.length:Int)) 93 (λ Yo=>?_) λ Yo=>?_
       ·refine aam ((UK.rb:Int)=(P_.rb:Int)+1) 98 (λ h49=>?_) λ h49=>?_
        ·refine ae 13 [] λ _=>bL 104 (nt (decide_eq_true h45))<|ae 21 [] λ _=>aai (fm H_ (ak 0) (w_.t0 hV (by have h_:=w_.vlen;have R_:=w_.lim;omega)))<|ae 1 [] λ _=>aai (cy H_ (ak 0))<|ah 5 [.nw] [aI ((UK.rows.length:Int)+(1+(Tb:Int)))] λ _=>aam ((UY.length:Int)>(UK.rows.length:Int)+(1+(Tb:Int))) 134 (λ h50=>?_) λ h50=>?_
         ·(exfalso;omega)
         ·refine ah 9 [.nw] [aI ((i_:Int)+1)] λ _=>cH 0 ?_;refine XP (i_+1,UK,Ws,c23,UY,m25,T26) [0,1] [1,0,2,3] ?_
          try dsimp only
          exact⟨⟨by omega,H_,w_,Xg⟩,by omega⟩
        ·(exfalso;omega)
       ·refine aam ((UK.rb:Int)=(P_.rb:Int)+1) 98 (λ Xv=>?_) λ Xv=>?_
        ·(exfalso;omega)
        ·refine ae 13 [] λ _=>bL 104 (nt (decide_eq_true h45))<|ae 21 [] λ _=>aai (fm H_ (ak 0) (w_.t0 hV (by have h_:=w_.vlen;have R_:=w_.lim;omega)))<|ae 1 [] λ _=>aai (cy H_ (ak 0))<|ah 5 [.nw] [aI ((UK.rows.length:Int)+(1+(Tb:Int)))] λ _=>aam ((UY.length:Int)>(UK.rows.length:Int)+(1+(Tb:Int))) 134 (λ h52=>?_) λ h52=>?_
         ·(exfalso;omega)
         ·refine ah 9 [.nw] [aI ((i_:Int)+1)] λ _=>cH 0 ?_;refine XP (i_+1,UK,Ws,c23,UY,m25,T26) [0,1] [1,0,2,3] ?_
          try dsimp only
          exact⟨⟨by omega,H_,w_,Xg⟩,by omega⟩
    ·refine ae 32 [] λ _=>bL 104 (nf (decide_eq_false h45))<|ae 3 [] λ _=>aan (XO=0) 107 (λ h53=>?_) λ h53=>?_
     ·refine ae 4 [] λ _=>aan ((UY.length:Int)-(V_.length:Int)=0) 111 (λ h54=>?_) λ h54=>?_
      ·refine ae 1 [] λ _=>aai (pE H_ (ak 0))<|ae 6 [] λ _=>aan ((UK.rb:Int)=(P_.rb:Int)) 117 (λ h55=>?_) λ h55=>?_
       ·refine ae 6 [] λ _=>aai (fm H_ (ak 0) (w_.t0 hV (by have h_:=w_.vlen;have R_:=w_.lim;omega)))<|ae 1 [] λ _=>aai (cy H_ (ak 0))<|ah 5 [.nw] [aI ((UK.rows.length:Int)+(1+(Tb:Int)))] λ _=>aam ((UY.length:Int)>(UK.rows.length:Int)+(1+(Tb:Int))) 134 (λ h56=>?_) λ h56=>?_
        ·(exfalso;omega)
        ·refine ah 9 [.nw] [aI ((i_:Int)+1)] λ _=>cH 0 ?_;refine XP (i_+1,UK,Ws,c23,UY,m25,T26) [0,1] [1,0,2,3] ?_
         try dsimp only
         exact⟨⟨by omega,H_,w_,Xg⟩,by omega⟩
       ·(exfalso;omega)
      ·(exfalso;omega)
     ·(exfalso;omega)
   ·refine ae 4 [] λ _=>aai (fm H_ (ak 0) (w_.t0 hV (by have h_:=w_.vlen;have R_:=w_.lim;omega)))<|ae 3 [] λ _=>aan ((UY.length:Int)=(V_.length:Int)) 122 (λ h57=>?_) λ h57=>?_
    ·refine ae 1 [] λ _=>aai (pE H_ (ak 0))<|ae 5 [] λ _=>aan ((UK.rb:Int)=(P_.rb:Int)) 127 (λ h58=>?_) λ h58=>?_
     ·refine ae 6 [] λ _=>aai (fm H_ (ak 0) (w_.t0 hV (by have h_:=w_.vlen;have R_:=w_.lim;omega)))<|ae 1 [] λ _=>aai (cy H_ (ak 0))<|ah 5 [.nw] [aI ((UK.rows.length:Int)+(1+(Tb:Int)))] λ _=>aam ((UY.length:Int)>(UK.rows.length:Int)+(1+(Tb:Int))) 134 (λ h59=>?_) λ h59=>?_
      ·(exfalso;omega)
      ·refine ah 9 [.nw] [aI ((i_:Int)+1)] λ _=>cH 0 ?_;refine XP (i_+1,UK,Ws,c23,UY,m25,T26) [0,1] [1,0,2,3] ?_
       try dsimp only
       exact⟨⟨by omega,H_,w_,Xg⟩,by omega⟩
     ·(exfalso;omega)
    ·(exfalso;omega)
 ·refine ae 8 [] λ _=>aai (jk _ (aq Xo) (aq Um))<|ae 3 [] λ _=>?_;exact aaq [] [] [] ⟨rfl,rfl⟩
end Go.Proofs.YtdppjkjbghbnjaaGreatDoor
