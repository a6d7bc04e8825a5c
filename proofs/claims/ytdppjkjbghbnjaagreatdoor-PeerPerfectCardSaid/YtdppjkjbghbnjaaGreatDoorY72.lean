import Derived.Test.YtdppjkjbghbnjaaGreatDoorY71
set_option maxHeartbeats 4000000
set_option maxRecDepth 100000
set_option linter.all false
namespace Go.Proofs.YtdppjkjbghbnjaaGreatDoor
open Go.RowKit
theorem perfect_any (A0:Option Addr) (n0 c0:Nat) (xs:List Int) (A3a:Option Addr) (n3a c3a:Nat) (x3a:List Int) (A4a:Option Addr) (n4a c4a:Nat) (x4a:List Int) (i1 i2:Int) (F:HL) (hE0:mF F) (hE1:bF F) (hl0:ArgD F A0 n0 xs) (hn0:n0 <= 9223372036854775807) (hl3a:ArgD F A3a n3a x3a) (hn3a:n3a <= 9223372036854775807) (hl4a:ArgD F A4a n4a x4a) (hn4a:n4a <= 9223372036854775807) (hi1:fH i1) (hi2:fH i2):Sp Tryz.prog 3 #[.slice A0 n0 c0,vI i1,vI i2,.slice A3a n3a c3a,.slice A4a n4a c4a] [] F (λ u H'=>u=.bool true /\ H'=[]):=by
 refine Sp.run Tryz.func3 rfl mn (A:=[]) (Ts:=[]) rfl λ w0=>?_
 refine ae 8 [] λ _=>RN.ct (Hp:=[]) (Tp:=[]) [] [] (hl0.up.use λ F_ h_=>lu A0 n0 c0 xs _ h_ hn0) ?_
 rintro _ ⟨S,TS⟩ ⟨rfl,hG⟩
 dsimp only at hG
 have hF:=uL hl0 hG
 have hpl:=hF.pl
 have hnb:=hF.nb
 have hrn:=hF.rn
 have hdn:=hF.dn
 have hsz:=hF.sz
 have hil:=gx S S.nb
 have hV:SetV S:=hl0.ex.elim λ _ h_=>setV h_ hG
 obtain ⟨pl,hplp⟩:∃ pl:Nat,S.players=(pl:Int):=⟨S.players.toNat,by omega⟩
 have hro_:RowOk S.players (rowP n3a x3a pl):=by rw [hplp];exact rowP_ok hl3a pl
 refine ae 7 (ow 0 16) λ n1=>?_
 obtain ⟨ar2,har2,hbar2⟩:∃ k:Nat,ai i2 12=(k:Int) /\ (k:Int) < 12:=⟨(ai i2 12).toNat,by have h_:=aA (n:=i2) hi2 12 (by decide);omega,by have h_:=aA (n:=i2) hi2 12 (by decide);omega⟩
 refine RN.cp (g9 har2 (by decide) _)<|ah 5 [.nw] [aI (1+(ar2:Int))] λ _=>RN.draw [] []<|ag [] [0,2,3,6,4] (ow 0 17)<|RD.one 1 (RDO.ct [] (Hp:=[]) (Tp:=[]) [] [] (gG 1 4 _ (by decide) (by decide) (aq hE0)) ?_)
 rintro _ ⟨b3,T4⟩ ⟨rfl,hB5⟩
 dsimp only at hB5
 obtain ⟨j0a,ej0a,hj0a⟩:∃ j,(ai 1 5).toNat=j /\ j < 5:=⟨_,rfl,by have h_:=aA (n:=1) (by decide) 5 (by decide);omega⟩
 obtain ⟨j0b,ej0b,hj0b⟩:∃ j,(ai 4 5).toNat=j /\ j < 5:=⟨_,rfl,by have h_:=aA (n:=4) (by decide) 5 (by decide);omega⟩
 rw [ej0a,ej0b] at hB5
 obtain ⟨ar6,har6,hbar6⟩:∃ k:Nat,ai i1 S.players=(k:Int) /\ (k:Int) < S.players:=⟨(ai i1 S.players).toNat,by have h_:=aA (n:=i1) hi1 S.players (by omega);omega,by have h_:=aA (n:=i1) hi1 S.players (by omega);omega⟩
 refine RD.cp [] 5 (λ X_=>(g9 har6 (by omega) _))<|RD.one 7 (RDO.ct [] (Hp:=[]) (Tp:=[]) [] [] (eO S j8 (gD (kv xs 3 % 3).toNat) b3 pl ar6 (1+ar2) (dN 3 j0a j0b 0) _ (hG.sin _ (az 1) (ak 1)).cl (hG.maps.2 _ (ak 1)) (by omega) (by omega) (by omega) (by omega) hF.val hplp (by omega) (by omega) (mi:=(ar6:Int)) (wi:=(1+(ar2:Int))) (by omega) (by omega)) ?_)
 rintro _ ⟨p7,T8⟩ ⟨rfl,hr9⟩
 dsimp only at hr9
 have hIp7:PeerI S (dN 3 j0a j0b 0) (1+ar2) (λ _:Nat=>rowP n3a x3a pl) (⟨⟨aH S S.nb,[],0⟩,0,[],[],0,[],[],0⟩:PS (List Inp)) [] 0 0:=fZ S (dN 3 j0a j0b 0) (1+ar2) (λ _:Nat=>rowP n3a x3a pl) 0
 obtain ⟨Pp7,ePp7⟩:∃ x,(⟨⟨aH S S.nb,[],0⟩,0,[],[],0,[],[],0⟩:PS (List Inp))=x:=⟨_,rfl⟩
 rw [ePp7] at hr9 hIp7
 have vl0_:([]:List (List Inp)).length=0:=rfl
 have rlPp7:Pp7.rows.length=0:=by rw [<- ePp7];rfl
 have rbPp7:Pp7.rb=0:=by subst ePp7;rfl
 refine ag [] [8] []<|RD.fin<|ae 23 [] λ _=>RN.nt<|RN.loop (σ:=Nat × Option Addr × Nat × HL) (λ ⟨k_,A_,c_,T_⟩=>⟨[(3,.slice A3a n3a c3a),(4,.slice A4a n4a c4a),(11,vP (n1+0) 0),(12,vI (1+(ar2:Int))),(13,vP p7 0),(14,.slice A_ k_ c_),(15,vI (k_:Int))],[((n1+0),.lit (Setup.l S) 31 (0,0)),(S.bb,.rows 9 S.bR (kW S.bods) 90 (0,0))],[T_,T8,T4,TS],(k_:Int) <= S.players /\ SlIs cS 40 (rowP n3a x3a k_) A_ c_ T_,S.players.toNat - k_⟩) (0,none,0,[]) [0,1] [0,1,2,3] (⟨by show (0:Int) <= _;omega,SlIs.nil _ _⟩) ?_
 rintro ⟨k_,A_,c_,T_⟩ ⟨hi_,hs_⟩ mt11
 refine ae 9 [.own 0] λ _=>RN.em ((k_:Int) < S.players) 40 (λ h12=>?_) λ h12=>?_
 ·refine ae 19 [] λ _=>RN.em ((k_:Int) < (n3a:Int)) 46 (λ h13=>?_) λ h13=>?_
  ·refine ae 4 [] λ _=>?_
   obtain ⟨Fx14,hdx14,hlax14⟩:=id hl3a
   obtain ⟨qx14,ox14,Nx14,gx14,tyx14,fzx14,hAx14,hqx14,hox14,hgx14,hrx14⟩:=hlax14.at (k:=k_) (by omega)
   refine aC 47 (congrArg (λ v_=>(.slice v_ n3a c3a:Value)) hAx14)<|RN.fd hdx14 [(qx14,.rows 1 Nx14 gx14 tyx14 fzx14)] (mc hqx14 mn)<|ah 2 [.ix k_,.rorow 0 (ox14+k_) 0] [(ox14+k_ * 1)=(ox14+k_) * 1+0 /\ (ox14+k_) < Nx14,(k_:Int)=((k_:Nat):Int) /\ k_ < n3a] λ _=>aC 50 (congrArg (λ v_=>(v_:Value)) hgx14)<|RN.fd hdx14.symm [] mn<|ae 4 [] λ _=>aC 16 (congrArg (λ v_=>(vI v_:Value)) (show x3a.getD k_ 0=dNP n3a x3a k_ from (if_pos (by omega)).symm))<|ae 2 [] λ _=>RN.cp (lL (dNP n3a x3a k_) _ (dNP_r hl3a k_))<|RN.cp (pred21_any (qD (ai (dNP n3a x3a k_) 36)) _)<|ae 1 [] λ n15=>fG tE (rowP n3a x3a k_) [lI (qD (ai (dNP n3a x3a k_) 36))] 0 0 (rowP_len _ _ _).symm hs_ (by rw [rowP_len];show k_+1 <= 100000000;omega) ?_
   rintro A16 c17 T18 ⟨hs19,hz20⟩
   refine ah 9 [.nw] [aI ((k_:Int)+1)] λ _=>?_
   refine mt11 (k_+1,A16,c17,T18) [1,2] [0,1,2,3] ?_
   try dsimp only
   refine ⟨⟨by omega,?_⟩,by omega⟩
   rw [rowP_succ]
   exact hs19
  ·refine ae 4 [] λ _=>aC 16 (congrArg (λ v_=>(vI v_:Value)) (show (0:Int)=dNP n3a x3a k_ from (if_neg (by omega)).symm))<|ae 2 [] λ _=>RN.cp (lL (dNP n3a x3a k_) _ (dNP_r hl3a k_))<|RN.cp (pred21_any (qD (ai (dNP n3a x3a k_) 36)) _)<|ae 1 [] λ n21=>fG tE (rowP n3a x3a k_) [lI (qD (ai (dNP n3a x3a k_) 36))] 0 0 (rowP_len _ _ _).symm hs_ (by rw [rowP_len];show k_+1 <= 100000000;omega) ?_
   rintro A22 c23 T24 ⟨hs25,hz26⟩
   refine ah 9 [.nw] [aI ((k_:Int)+1)] λ _=>?_
   refine mt11 (k_+1,A22,c23,T24) [1,2] [0,1,2,3] ?_
   try dsimp only
   refine ⟨⟨by omega,?_⟩,by omega⟩
   rw [rowP_succ]
   exact hs25
 ·refine ae 8 [] λ _=>?_
  obtain rfl:pl=k_:=by omega
  refine ae 8 [] λ _=>?_
  have hA0_:PfI (rowP n3a x3a pl) Pp7 ([]:List (List Inp)):=⟨rbPp7,λ x hx=>by cases hx⟩
  refine RN.ct [] [1] (pconfP (cc:=c_) hr9 hIp7 hA0_ hro_ hV (by omega) (by omega) (hs_.rowN (ak 0) (rowP_len _ _ _)) (show 0=_ by omega)) ?_
  rintro _ ⟨P27,T28⟩ ⟨rfl,hs29,hI30,hA31,hl32⟩
  dsimp only at hs29 hI30 hA31 hl32
  refine ae 13 [] λ _=>RN.loop (σ:=Nat × PS (List Inp) × Nat × List (List Inp) × Nat × HL) (λ ⟨i_,P_,cc_,V_,m_,G_⟩=>⟨[(4,.slice A4a n4a c4a),(12,vI (1+(ar2:Int))),(13,vP p7 0),(14,.slice A_ pl c_),(17,vI (V_.length:Int)),(18,vI (i_:Int))],[((n1+0),.lit (Setup.l S) 31 (0,0)),(S.bb,.rows 9 S.bR (kW S.bods) 90 (0,0))],[G_,T_,T4,TS],i_ <= 8 /\ PeerR j8 (gD (kv xs 3 % 3).toNat) b3 p7 pl ar6 (1+ar2) S (dN 3 j0a j0b 0) P_ ([]) cc_ 0 none G_ /\ PeerI S (dN 3 j0a j0b 0) (1+ar2) (λ _:Nat=>rowP n3a x3a pl) P_ V_ m_ (1+2 * i_) /\ PfI (rowP n3a x3a pl) P_ V_ /\ cc_ <= 50 * (1+2 * i_) /\ 0 < P_.rows.length,8 - i_⟩) (0,P27,0,([]:List (List Inp)),0,T28) [0,1] [0,1,2,3] (⟨Nat.zero_le _,hs29,hI30,hA31,by omega,by omega⟩) ?_
  rintro ⟨i_,P_,cc_,V_,m_,G_⟩ ⟨hi_,hG_,hI_,hA_,hc_,h0_⟩ mt34
  have hli_:=hI_.lim
  have hvl_:=hI_.vlen
  have hrb_:=hA_.rb
  refine ae 8 [] λ _=>RN.em ((i_:Int) < (n4a:Int)) 65 (λ h35=>?_) λ h35=>?_
  ·refine ae 5 [] λ _=>RN.em ((i_:Int) < 8) 68 (λ h36=>?_) λ h36=>?_
   ·refine ae 9 [] λ _=>?_
    obtain ⟨Fx37,hdx37,hlax37⟩:=id hl4a
    obtain ⟨qx37,ox37,Nx37,gx37,tyx37,fzx37,hAx37,hqx37,hox37,hgx37,hrx37⟩:=hlax37.at (k:=i_) (by omega)
    refine aC 71 (congrArg (λ v_=>(.slice v_ n4a c4a:Value)) hAx37)<|RN.fd hdx37 [(qx37,.rows 1 Nx37 gx37 tyx37 fzx37)] (mc hqx37 mn)<|ah 2 [.ix i_,.rorow 0 (ox37+i_) 0] [(ox37+i_ * 1)=(ox37+i_) * 1+0 /\ (ox37+i_) < Nx37,(i_:Int)=((i_:Nat):Int) /\ i_ < n4a] λ _=>aC 74 (congrArg (λ v_=>(v_:Value)) hgx37)<|RN.fd hdx37.symm [] mn ?_
    obtain ⟨ar38,har38,hbar38⟩:∃ k:Nat,ai (x4a.getD i_ 0) 3=(k:Int) /\ (k:Int) < 3:=⟨(ai (x4a.getD i_ 0) 3).toNat,by have h_:=aA (n:=(x4a.getD i_ 0)) hrx37 3 (by decide);omega,by have h_:=aA (n:=(x4a.getD i_ 0)) hrx37 3 (by decide);omega⟩
    refine RN.cp (g9 har38 (by decide) _)<|ae 7 [] λ _=>RN.cp (fm hG_ (ak 0) (hI_.t0 hV (by have h_:=hI_.vlen;have h2_:=hI_.lim;omega)))<|ah 3 [.nw] [aI ((V_.length:Int)+(ar38:Int))] λ _=>RN.cp (cy hG_ (ak 0))<|ah 3 [.nw] [aI ((P_.rows.length:Int)+(1+(ar2:Int)))] λ _=>?_
    obtain ⟨t_,ht_,ht1_,ht2_⟩:∃ t:Nat,(if (P_.rows.length:Int)+(1+(ar2:Int)) < (V_.length:Int)+(ar38:Int) then (P_.rows.length:Int)+(1+(ar2:Int)) else (V_.length:Int)+(ar38:Int))=(t:Int) /\ V_.length <= t /\ t <= P_.rows.length+(1+ar2):=⟨(if (P_.rows.length:Int)+(1+(ar2:Int)) < (V_.length:Int)+(ar38:Int) then (P_.rows.length:Int)+(1+(ar2:Int)) else (V_.length:Int)+(ar38:Int)).toNat,by split <;> omega,by split <;> omega,by split <;> omega⟩
    refine RN.ct [] [0] (padvP hG_ hI_ hA_ (rowP_pred _ _ _) hro_ (by omega) hV (by omega) (by omega) (by omega) hc_ (λ i hi=>gl hB5 (ak 1) hj0a hj0b (t:=0+i) (by omega)) (aq hE1) ht_ ht1_ ht2_) ?_
    rintro _ ⟨⟨P39,c40,V41,m42⟩,T43⟩ ⟨rfl,hs44,hI45,hA46,hc47,hl48,hv49⟩
    dsimp only at hs44 hI45 hA46 hc47 hl48 hv49
    have hliP39:=hI45.lim
    refine ae 15 [] λ _=>RN.cp (cy hs44 (ak 0))<|ae 1 [] λ _=>RN.ct [] [0] (pconfP (cc:=c_) hs44 hI45 hA46 hro_ hV (by omega) hc47 (hs_.rowN (ak 0) (rowP_len _ _ _)) (show (P39.rows.length:Int)=_ by omega)) ?_
    rintro _ ⟨P50,T51⟩ ⟨rfl,hs52,hI53,hA54,hl55⟩
    dsimp only at hs52 hI53 hA54 hl55
    refine ah 20 [.gen,.gen,.nw,.nw] [aI ((i_:Int)+1),aI ((V_.length:Int)+((V41.length:Int) - (V_.length:Int)))] λ _=>aC 17 (congrArg (λ v_=>(vI v_:Value)) (show ((V_.length:Int)+((V41.length:Int) - (V_.length:Int)))=(V41.length:Int) by omega)) ?_
    refine mt34 (i_+1,P50,c40,V41,m42,T51) [0,1] [0,1,2,3] ?_
    try dsimp only
    exact ⟨⟨by omega,hs52,hI53.more (by omega),hA54,by omega,by omega⟩,by omega⟩
   ·refine ae 10 [] λ _=>RN.cp (fm hG_ (ak 0) (hI_.t0 hV (by have h_:=hI_.vlen;have h2_:=hI_.lim;omega)))<|ae 2 [] λ _=>RN.em ((V_.length:Int)=(V_.length:Int)) 107 (λ h56=>?_) λ h56=>?_
    ·refine ae 1 [] λ _=>RN.cp (pE hG_ (ak 0))<|ae 3 [] λ _=>RN.em ((P_.rb:Int)=0) 112 (λ h57=>?_) λ h57=>?_
     ·refine RN.cp (jk _ (aq hE0) (aq hE1))<|ae 4 [] λ _=>?_
      exact RN.ret [] [] [] ⟨rfl,rfl⟩
     ·(exfalso;omega)
    ·(exfalso;omega)
  ·refine ae 15 [] λ _=>RN.cp (fm hG_ (ak 0) (hI_.t0 hV (by have h_:=hI_.vlen;have h2_:=hI_.lim;omega)))<|ae 2 [] λ _=>RN.em ((V_.length:Int)=(V_.length:Int)) 107 (λ h58=>?_) λ h58=>?_
   ·refine ae 1 [] λ _=>RN.cp (pE hG_ (ak 0))<|ae 3 [] λ _=>RN.em ((P_.rb:Int)=0) 112 (λ h59=>?_) λ h59=>?_
    ·refine RN.cp (jk _ (aq hE0) (aq hE1))<|ae 4 [] λ _=>?_
     exact RN.ret [] [] [] ⟨rfl,rfl⟩
    ·(exfalso;omega)
   ·(exfalso;omega)
end Go.Proofs.YtdppjkjbghbnjaaGreatDoor
