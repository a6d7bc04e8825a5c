import Derived.Test.YthoijjeddhfcnaaGreatW38
import Derived.Test.YthoijjeddhfcnaaGreatRows
import Derived.Test.YthoijjeddhfcnaaGreatChecked
import Derived.Test.YthoijjeddhfcnaaGreatW21
import Derived.ProofKit
import Derived.OpenShut
import Derived.Carry
import Derived.Lay
import Derived.LaidHandle
import Derived.ChangeSlices
import Derived.JoinedOf
set_option maxHeartbeats 4000000
set_option maxRecDepth 100000
set_option linter.unusedSimpArgs false
set_option linter.unusedVariables false
namespace Go.Proofs.YthoijjeddhfcnaaGreat
open Go.RowKit
theorem far_w {V:Nat -> V2} {l:List Bod} {b n c:Nat} (h:FarS (farSet b n c l) V):wrongE (farSet b n c l).players 1 [dI] ((⟨iniL (farSet b n c l) n,[],0⟩:MemS).get 0)=0:=by
 have e:(⟨iniL (farSet b n c l) n,[],0⟩:MemS).get 0=0:=(ini_te2 h.setV).t0
 rw [e]
 show wrongE 1 1 [dI] 0=0
 decide
theorem far_any (A0:Option Addr) (n cap:Nat) (xs:List Int) (n0:Int) (F:HL) (hl:ArgD F A0 n xs) (hn:n <= 9223372036854775807) (hi0:i64r n0):Sp Tryz.prog 3 #[vI n0,.slice A0 n cap] [] F (λ u H'=>u=.bool true /\ H'=[]):=by
 obtain ⟨kk,hkk_,hk2_⟩:∃ kk:Nat,2+around n0 4=(kk:Int) /\ 2 <= kk /\ kk <= 5:=by
  have h_:=around_bd hi0 4 (by decide)
  exact ⟨(2+around n0 4).toNat,by omega,by omega,by omega⟩
 have har_:=around_bd hi0 4 (by decide)
 refine Sp.run Tryz.func3 rfl mn (A:=[]) (Ts:=[]) rfl λ w0=>?_
 refine RN.go 8 [] λ _=>RN.cp (around_any n0 4 (by decide) _)<|RN.goP 5 [.nw] [I64 (2+(around n0 4))] λ _=>RN.sv 5 (congrArg (λ v_=>(vI v_:Value)) hkk_)<|RN.go 14 (ow 0 16) λ n1=>RN.nt<|RN.loop (σ:=Nat × List Bod × (Nat -> V2) × Option Addr × Nat × HL) (λ ⟨i_,l_,V_,B_,d_,E_⟩=>⟨[(1,.slice A0 n cap),(5,vI (kk:Int)),(6,vP (n1+0) 0),(7,vI (i_:Int))],[((n1+0),.lit [vI 1,.slice B_ i_ d_,vI (-100000),vI (-100000),vI 100000,vI 100000,.slice none 0 0,.slice none 0 0,vI 0,vI 0,vI 0,vI 0,vI 0,vI 0,vI 2,vI 5] 32 (0,0))],[E_],i_ <= kk /\ l_.length=i_ /\ (∀ t,t < i_ -> l_.getD t dB=farBod V_ t) /\ (∀ i,(-2000 <= (V_ i).x /\ (V_ i).x <= 2000) /\ (-2000 <= (V_ i).y /\ (V_ i).y <= 2000)) /\ SlIs bodE 39 l_ B_ d_ E_ /\ zeroOff B_,kk - i_⟩) (0,[],(λ _=>⟨0,0⟩),none,0,[]) [0] [0] (⟨Nat.zero_le _,rfl,λ t ht=>absurd ht (Nat.not_lt_zero _),λ _=>⟨by dsimp only;decide,by dsimp only;decide⟩,SlIs.nil _ _,trivial⟩) ?_
 rintro ⟨i_,l_,V_,B_,d_,E_⟩ ⟨hi_,hl_,hb_,hv_,hs_,hz_⟩ mt3
 refine RN.go 8 [] λ _=>RN.em ((i_:Int) < (kk:Int)) 23 (λ h4=>?_) λ h4=>?_
 ·refine RN.goP 25 (ow 0 9++[.nw,.nw,.nw,.nw,.nw]) [I64 (2 * (i_:Int)),I64 (10000 * ((i_:Int) / 3)),0 <= (i_:Int) /\ (0:Int) < 3 /\ (i_:Int) <= 9223372036854775807,I64 (10000 * ((i_:Int) % 3)),0 <= (i_:Int) /\ (0:Int) < 3 /\ (i_:Int) <= 9223372036854775807] λ n5=>RN.ct (Hp:=[]) (Tp:=[]) [] [] (hl.up.use λ F_ h_=>pickb_run A0 n cap (2 * (i_:Int)) 4001 xs _ h_ (by decide)) ?_
  rintro _ v6 ⟨rfl,hv7⟩
  refine RN.goP 5 [.nw,.nw,.nw] [I64 ((2 * (i_:Int))+1),I64 (2 * (i_:Int)),I64 (v6 - 2000)] λ _=>RN.ct (Hp:=[]) (Tp:=[]) [] [] (hl.up.use λ F_ h_=>pickb_run A0 n cap ((2 * (i_:Int))+1) 4001 xs _ h_ (by decide)) ?_
  rintro _ v8 ⟨rfl,hv9⟩
  refine RN.goP 12 ([.nw]++ow 0 5++[.own 1]++ow 0 9) [I64 (v8 - 2000)] λ n10=>RN.app bodEOk l_ [(⟨⟨1024,[],none,0⟩,⟨10000 * ((i_:Int) % 3),10000 * ((i_:Int) / 3),v6 - 2000,v8 - 2000,1024⟩,0,0⟩:Bod)] 0 0 hl_.symm hs_ (by simp;omega) ?_
  rintro A11 c12 T13 ⟨hs14,hz15⟩
  refine RN.goP 10 [.own 2,.nw] [I64 ((i_:Int)+1)] λ _=>?_
  have hz2_:=hz15 hz_
  refine RN.sv 7 (congrArg (λ v_=>(vI v_:Value)) (show (i_:Int)+1=((i_+1:Nat):Int) by omega)) ?_
  refine mt3 (i_+1,l_++[(⟨⟨1024,[],none,0⟩,⟨10000 * ((i_:Int) % 3),10000 * ((i_:Int) / 3),v6 - 2000,v8 - 2000,1024⟩,0,0⟩:Bod)],(λ q:Nat=>if q=i_ then (⟨v6 - 2000,v8 - 2000⟩:V2) else V_ q),A11,c12,T13) [2] [0] ?_
  try dsimp only
  refine ⟨⟨by omega,by simp [hl_],λ t ht=>?_,λ t=>?_,hs14,hz2_⟩,by omega⟩
  ·rcases Nat.lt_or_ge t i_ with h_ | h_
   ·rw [getD_app (by omega),hb_ t h_];exact (farV_ext (if_neg (by omega))).symm
   ·obtain rfl:t=l_.length:=by omega
    rw [getD_last];subst hl_;unfold farBod far0 gX gY;dsimp only;rw [if_pos rfl];congr 2
  ·by_cases e_:t=i_
   ·rw [if_pos e_];dsimp only;omega
   ·rw [if_neg e_];exact hv_ t
 ·refine RN.go 7 [] λ _=>?_
  obtain rfl:i_=kk:=by omega
  obtain ⟨b_,r_,rfl,rfl,hc_⟩:=hs_.openL hz_ (by decide) (by omega)
  have hcl_:i_ <= d_:=by rw [<- hc_,List.length_append];omega
  refine RN.ot 0 (x:=(b_,.rows 9 d_ (rowE bodE (l_++r_)) 39 (0,0))) ?_
  have m1_:(-1:Int) < 0:=by decide
  have hSN_:SetN (farSet b_ i_ d_ (l_++r_)):=⟨by show (0:Int) <= 1 /\ (1:Int) <= 1000000;decide,by show i_ <= 1000000;omega⟩
  have hpr_:=far_pr (m:=i_) (by omega) (by omega)
  have hF_:=far_set (b:=b_) (n:=i_) (c:=d_) (r:=r_) ⟨by omega,by omega⟩ hl_ hb_ hv_
  refine RN.go 2 (ow 1 16) λ _=>RN.ct (Hp:=[]) (Tp:=[]) [] [] (linit_ap (farSet b_ i_ d_ (l_++r_)) _ (far_in ⟨by omega,by omega⟩ hl_ hcl_ hb_ (in_ap 0))) ?_
  rintro _ q0_ rfl
  refine RN.ct (Hp:=[]) (Tp:=[]) [] [] (newn_any q0_ (iniL (farSet b_ i_ d_ (l_++r_)) i_) (sizeOf (farSet b_ i_ d_ (l_++r_))).toNat 1000000 ((sizeOf (farSet b_ i_ d_ (l_++r_))).toNat) _ (iniL_len _ _) (in_ap 0) (by have h_:=hF_.setV.nb;show (48+4 * (1:Int)+8 * ((i_:Nat):Int)).toNat <= 1000000;omega) (by decide) (Nat.le_refl _)) ?_
  rintro _ ⟨mq_,Tq_⟩ ⟨rfl,hMq_⟩
  dsimp only at hMq_
  refine RN.go 14 [] λ _=>RN.draw [5,12] []<|RD.go [] [0,1,3] (ow 2 16)<|RD.cp [] 2 (λ X_=>prog20_in)<|RD.two 4 10 ?_ ?_
  ·refine RDO.ev [] [] λ n17=>RD.dn 0 (.rows 3 1 (inrow [dI]) 56 (0,0))<|RD.two 5 10 ?_ ?_
   ·refine RDO.ct [] [] [0] (etick_run (farSet b_ i_ d_ (l_++r_)) mq_ (n17+0) 0 1 1 1 0 100000 0 none (-1) (-1) (-1) 0 [] [dI] [dI] (FaI (farSet b_ i_ d_ (l_++r_)) V_) (FaF (farSet b_ i_ d_ (l_++r_)) V_) ⟨iniL (farSet b_ i_ d_ (l_++r_)) i_,[],0⟩ Tq_ _ (λ k_ _=>by rw [Nat.zero_add]) (hMq_.weak (by decide)) ⟨far_in ⟨by omega,by omega⟩ hl_ hcl_ hb_ (in_ap 2),in_ap 0,⟨Nat.le_refl 1,(by show 1 <= 1000000;decide)⟩,.nil _⟩ hF_.setV hF_.boxV hF_.sm rfl (FaI.start hF_) (λ _ _ _ _ _ _ h_=>⟨(h_.lt hF_).1,(h_.lt hF_).2,h_.len,h_.bi⟩) (λ _ _ _ _ _ _ h_ h4_=>⟨(h_.tr (g:=(gmN (farSet b_ i_ d_ (l_++r_)) 0 (-1) (-1) (-1) 0 1 [dI] [])) hF_ m1_ m1_ m1_ h4_).1,λ hr_=>absurd (h_.g3 h4_) hr_.2,(h_.tr (g:=(gmN (farSet b_ i_ d_ (l_++r_)) 0 (-1) (-1) (-1) 0 1 [dI] [])) hF_ m1_ m1_ m1_ h4_).2⟩) (λ _ _ _ _ _ _ _ _ _ _ h_ h4_ hc2_ hs3_=>h_.col hF_ h4_ hc2_ hs3_) (far_w hF_)) ?_
    rintro _ ⟨N_,es_,A2_,c2_,E2_,T2_,p2_,q2_,s2_⟩ ⟨hf_,hM2_,hs2_,rfl⟩
    dsimp only at hf_ hM2_ hs2_
    obtain ⟨ef1_,ef2_,ef3_,e1_,e2_,e3_⟩:=hf_
    subst ef1_ e1_ e2_ e3_
    refine RD.go [] [6,7,8,9] []<|RD.one 10 (RDO.ev [] [] λ n18=>?_)
    refine RD.go [] [11] []<|RD.one 12 (RDO.ev [] [.own 0,.own 0,.own 0] λ _=>?_)
    refine RD.go [] [13] []<|RD.fin<|RN.goP 17 [.own 0,.own 0,.own 0,.nw,.nw,.sq] [I64 ((i_:Int) * ((i_:Int) - 1)),I64 ((i_:Int) - 1)] λ _=>RN.eB ((decide (0=0) && (decide (0=0) && (decide ((i_:Int) * ((i_:Int) - 1)=(i_:Int) * ((i_:Int) - 1)) && true)))) 80 (λ h19=>?_) λ h19=>?_
    ·refine RN.go 10 [] λ _=>RN.loop (σ:=Nat) (λ k_=>⟨[(5,vI (i_:Int)),(6,vP (n1+0) 0),(9,vP mq_ 0),(13,vI (k_:Int))],[((n18+0),.lit [vI 0,vI 0,vI ((i_:Int) * ((i_:Int) - 1))] 46 (0,0)),((n17+0),.rows 3 1 (inrow [dI]) 56 (0,0)),(q0_,.rows 1 ((sizeOf (farSet b_ i_ d_ (l_++r_))).toNat) (irow (iniL (farSet b_ i_ d_ (l_++r_)) i_)) 3 (0,0)),(b_,.rows 9 d_ (rowE bodE (l_++r_)) 39 (0,0)),((n1+0),.lit [vI 1,vS b_ 0 i_ d_,vI (-100000),vI (-100000),vI 100000,vI 100000,.slice none 0 0,.slice none 0 0,vI 0,vI 0,vI 0,vI 0,vI 0,vI 0,vI 2,vI 5] 32 (0,0))],[T2_,E2_],k_ <= i_,i_ - k_⟩) 0 [0,1,2,3,4] [0,1] (Nat.zero_le _) ?_
     rintro k_ hi2_ mt21
     refine RN.go 8 [] λ _=>RN.em ((k_:Int) < (i_:Int)) 83 (λ h22=>?_) λ h22=>?_
     ·refine RN.goP 21 ([.own 4,.ix k_,.row 3 k_ 2,.row 3 k_ 3,.row 3 k_ 4,.row 3 k_ 5,.row 3 k_ 6]++ow 0 5++ow 5 16) [((0+k_ * 9)+6)=k_ * 9+6 /\ k_ < d_,((0+k_ * 9)+5)=k_ * 9+5 /\ k_ < d_,((0+k_ * 9)+4)=k_ * 9+4 /\ k_ < d_,((0+k_ * 9)+3)=k_ * 9+3 /\ k_ < d_,((0+k_ * 9)+2)=k_ * 9+2 /\ k_ < d_,(k_:Int)=((k_:Nat):Int) /\ k_ < i_] λ n23=>RN.cp (lbody_any (farSet b_ i_ d_ (l_++r_)) (k_:Int) _ hSN_)<|RN.go 4 [] λ _=>?_
      have hm_:=ef3_ k_ (by show k_ < i_;omega)
      rw [if_pos (show k_ < i_ by omega)] at hm_
      have hbk_:(l_++r_).getD k_ dB=farBod V_ k_:=by rw [getD_app (by omega)];exact hb_ k_ (by omega)
      have hg0_:N_.get (bodyAt (farSet b_ i_ d_ (l_++r_)) (k_:Int))=(((l_++r_).getD k_ dB).mot.px)+(((l_++r_).getD k_ dB).mot.vx):=by rw [hbk_,<- Int.add_zero (bodyAt (farSet b_ i_ d_ (l_++r_)) (k_:Int))];exact congrArg Mot.px hm_
      have hg1_:N_.get (bodyAt (farSet b_ i_ d_ (l_++r_)) (k_:Int)+1)=(((l_++r_).getD k_ dB).mot.py)+(((l_++r_).getD k_ dB).mot.vy):=by rw [hbk_];exact congrArg Mot.py hm_
      have hg2_:N_.get (bodyAt (farSet b_ i_ d_ (l_++r_)) (k_:Int)+2)=((l_++r_).getD k_ dB).mot.vx:=by rw [hbk_];exact congrArg Mot.vx hm_
      have hg3_:N_.get (bodyAt (farSet b_ i_ d_ (l_++r_)) (k_:Int)+3)=((l_++r_).getD k_ dB).mot.vy:=by rw [hbk_];exact congrArg Mot.vy hm_
      have hbt_:bodyAt (farSet b_ i_ d_ (l_++r_)) (k_:Int)=48+4 * 1+8 * (k_:Int):=bat (S:=(farSet b_ i_ d_ (l_++r_))) (by omega) (by show (k_:Int) < (i_:Int);omega)
      have hvk_:=hv_ k_
      have hgk_:=grid_bd (i:=k_) (by omega)
      have hpx_:((l_++r_).getD k_ dB).mot.px=gX k_:=by rw [hbk_];rfl
      have hpy_:((l_++r_).getD k_ dB).mot.py=gY k_:=by rw [hbk_];rfl
      have hvx_:((l_++r_).getD k_ dB).mot.vx=(V_ k_).x:=by rw [hbk_];rfl
      have hvy_:((l_++r_).getD k_ dB).mot.vy=(V_ k_).y:=by rw [hbk_];rfl
      refine RN.draw [] []<|RD.goP [] [0,1,3,6,4,7,5,8,9] [.own 0,.own 0,.nw] [I64 ((((l_++r_).getD k_ dB).mot.px)+(((l_++r_).getD k_ dB).mot.vx))]<|RD.cp [] 2 (λ X_=>(get_lit (bodyAt (farSet b_ i_ d_ (l_++r_)) (k_:Int)) hg0_ hM2_ (sub_apX 0)))<|RD.go [] [10,11] []<|RD.fx 106 (nt (decide_eq_true (rfl:(((l_++r_).getD k_ dB).mot.px)+(((l_++r_).getD k_ dB).mot.vx)=(((l_++r_).getD k_ dB).mot.px)+(((l_++r_).getD k_ dB).mot.vx))))<|RD.goP [] [12,13,16,19,14,17,20,18,21,22] [.nw,.own 0,.own 0,.nw] [I64 ((((l_++r_).getD k_ dB).mot.py)+(((l_++r_).getD k_ dB).mot.vy)),I64 ((bodyAt (farSet b_ i_ d_ (l_++r_)) (k_:Int))+1)]<|RD.cp [] 15 (λ X_=>(get_lit ((bodyAt (farSet b_ i_ d_ (l_++r_)) (k_:Int))+1) hg1_ hM2_ (sub_apX 0)))<|RD.go [] [23,24,25] []<|RD.fx 120 (nt (decide_eq_true (rfl:(((l_++r_).getD k_ dB).mot.py)+(((l_++r_).getD k_ dB).mot.vy)=(((l_++r_).getD k_ dB).mot.py)+(((l_++r_).getD k_ dB).mot.vy))))<|RD.goP [] [26,27,30,28,31,32] [.nw,.own 0] [I64 ((bodyAt (farSet b_ i_ d_ (l_++r_)) (k_:Int))+2)]<|RD.cp [] 29 (λ X_=>(get_lit ((bodyAt (farSet b_ i_ d_ (l_++r_)) (k_:Int))+2) hg2_ hM2_ (sub_apX 0)))<|RD.go [] [33,34,35] []<|RD.fx 130 (nt (decide_eq_true (rfl:((l_++r_).getD k_ dB).mot.vx=((l_++r_).getD k_ dB).mot.vx))) ?_
      refine RD.goP [] [36,37,40,38,41,42] [.nw,.own 0] [I64 ((bodyAt (farSet b_ i_ d_ (l_++r_)) (k_:Int))+3)]<|RD.cp [] 39 (λ X_=>(get_lit ((bodyAt (farSet b_ i_ d_ (l_++r_)) (k_:Int))+3) hg3_ hM2_ (sub_apX 0)))<|RD.go [] [43,44] []<|RD.fin<|RN.go 1 [] λ _=>RN.fx 139 (nt (decide_eq_true (rfl:((l_++r_).getD k_ dB).mot.vy=((l_++r_).getD k_ dB).mot.vy)))<|RN.goP 9 [.nw] [I64 ((k_:Int)+1)] λ _=>RN.sv 13 (congrArg (λ v_=>(vI v_:Value)) (show (k_:Int)+1=((k_+1:Nat):Int) by omega)) ?_
      refine mt21 (k_+1) [1,2,3,4,5] [0,1] ?_
      try dsimp only
      exact ⟨by omega,by omega⟩
     ·refine RN.go 8 [] λ _=>RN.cp lives20_in<|RN.go 3 [] λ _=>?_
      exact RN.ret [] [] [] ⟨rfl,rfl⟩
    ·(exfalso;simp at h19)
   ·refine RDO.ev [] [] λ n24=>RD.one 5 (RDO.ct [] [] [0] (etick_run (farSet b_ i_ d_ (l_++r_)) mq_ (n17+0) 0 1 1 1 0 100000 0 none (-1) (-1) (-1) 0 [] [dI] [dI] (FaI (farSet b_ i_ d_ (l_++r_)) V_) (FaF (farSet b_ i_ d_ (l_++r_)) V_) ⟨iniL (farSet b_ i_ d_ (l_++r_)) i_,[],0⟩ Tq_ _ (λ k_ _=>by rw [Nat.zero_add]) (hMq_.weak (by decide)) ⟨far_in ⟨by omega,by omega⟩ hl_ hcl_ hb_ (in_ap 3),in_ap 1,⟨Nat.le_refl 1,(by show 1 <= 1000000;decide)⟩,.nil _⟩ hF_.setV hF_.boxV hF_.sm rfl (FaI.start hF_) (λ _ _ _ _ _ _ h_=>⟨(h_.lt hF_).1,(h_.lt hF_).2,h_.len,h_.bi⟩) (λ _ _ _ _ _ _ h_ h4_=>⟨(h_.tr (g:=(gmN (farSet b_ i_ d_ (l_++r_)) 0 (-1) (-1) (-1) 0 1 [dI] [])) hF_ m1_ m1_ m1_ h4_).1,λ hr_=>absurd (h_.g3 h4_) hr_.2,(h_.tr (g:=(gmN (farSet b_ i_ d_ (l_++r_)) 0 (-1) (-1) (-1) 0 1 [dI] [])) hF_ m1_ m1_ m1_ h4_).2⟩) (λ _ _ _ _ _ _ _ _ _ _ h_ h4_ hc2_ hs3_=>h_.col hF_ h4_ hc2_ hs3_) (far_w hF_)) ?_)
    rintro _ ⟨N_,es_,A2_,c2_,E2_,T2_,p2_,q2_,s2_⟩ ⟨hf_,hM2_,hs2_,rfl⟩
    dsimp only at hf_ hM2_ hs2_
    obtain ⟨ef1_,ef2_,ef3_,e1_,e2_,e3_⟩:=hf_
    subst ef1_ e1_ e2_ e3_
    refine RD.go [] [6,7,8,9,11] []<|RD.one 12 (RDO.ev [] [.own 0,.own 0,.own 0] λ _=>?_)
    refine RD.go [] [13] []<|RD.fin<|RN.goP 17 [.own 0,.own 0,.own 0,.nw,.nw,.sq] [I64 ((i_:Int) * ((i_:Int) - 1)),I64 ((i_:Int) - 1)] λ _=>RN.eB ((decide (0=0) && (decide (0=0) && (decide ((i_:Int) * ((i_:Int) - 1)=(i_:Int) * ((i_:Int) - 1)) && true)))) 80 (λ h25=>?_) λ h25=>?_
    ·refine RN.go 10 [] λ _=>RN.loop (σ:=Nat) (λ k_=>⟨[(5,vI (i_:Int)),(6,vP (n1+0) 0),(9,vP mq_ 0),(13,vI (k_:Int))],[((n24+0),.lit [vI 0,vI 0,vI ((i_:Int) * ((i_:Int) - 1))] 46 (0,0)),((n17+0),.rows 3 1 (inrow [dI]) 56 (0,0)),(q0_,.rows 1 ((sizeOf (farSet b_ i_ d_ (l_++r_))).toNat) (irow (iniL (farSet b_ i_ d_ (l_++r_)) i_)) 3 (0,0)),(b_,.rows 9 d_ (rowE bodE (l_++r_)) 39 (0,0)),((n1+0),.lit [vI 1,vS b_ 0 i_ d_,vI (-100000),vI (-100000),vI 100000,vI 100000,.slice none 0 0,.slice none 0 0,vI 0,vI 0,vI 0,vI 0,vI 0,vI 0,vI 2,vI 5] 32 (0,0))],[T2_,E2_],k_ <= i_,i_ - k_⟩) 0 [0,1,2,3,4] [0,1] (Nat.zero_le _) ?_
     rintro k_ hi2_ mt27
     refine RN.go 8 [] λ _=>RN.em ((k_:Int) < (i_:Int)) 83 (λ h28=>?_) λ h28=>?_
     ·refine RN.goP 21 ([.own 4,.ix k_,.row 3 k_ 2,.row 3 k_ 3,.row 3 k_ 4,.row 3 k_ 5,.row 3 k_ 6]++ow 0 5++ow 5 16) [((0+k_ * 9)+6)=k_ * 9+6 /\ k_ < d_,((0+k_ * 9)+5)=k_ * 9+5 /\ k_ < d_,((0+k_ * 9)+4)=k_ * 9+4 /\ k_ < d_,((0+k_ * 9)+3)=k_ * 9+3 /\ k_ < d_,((0+k_ * 9)+2)=k_ * 9+2 /\ k_ < d_,(k_:Int)=((k_:Nat):Int) /\ k_ < i_] λ n29=>RN.cp (lbody_any (farSet b_ i_ d_ (l_++r_)) (k_:Int) _ hSN_)<|RN.go 4 [] λ _=>?_
      have hm_:=ef3_ k_ (by show k_ < i_;omega)
      rw [if_pos (show k_ < i_ by omega)] at hm_
      have hbk_:(l_++r_).getD k_ dB=farBod V_ k_:=by rw [getD_app (by omega)];exact hb_ k_ (by omega)
      have hg0_:N_.get (bodyAt (farSet b_ i_ d_ (l_++r_)) (k_:Int))=(((l_++r_).getD k_ dB).mot.px)+(((l_++r_).getD k_ dB).mot.vx):=by rw [hbk_,<- Int.add_zero (bodyAt (farSet b_ i_ d_ (l_++r_)) (k_:Int))];exact congrArg Mot.px hm_
      have hg1_:N_.get (bodyAt (farSet b_ i_ d_ (l_++r_)) (k_:Int)+1)=(((l_++r_).getD k_ dB).mot.py)+(((l_++r_).getD k_ dB).mot.vy):=by rw [hbk_];exact congrArg Mot.py hm_
      have hg2_:N_.get (bodyAt (farSet b_ i_ d_ (l_++r_)) (k_:Int)+2)=((l_++r_).getD k_ dB).mot.vx:=by rw [hbk_];exact congrArg Mot.vx hm_
      have hg3_:N_.get (bodyAt (farSet b_ i_ d_ (l_++r_)) (k_:Int)+3)=((l_++r_).getD k_ dB).mot.vy:=by rw [hbk_];exact congrArg Mot.vy hm_
      have hbt_:bodyAt (farSet b_ i_ d_ (l_++r_)) (k_:Int)=48+4 * 1+8 * (k_:Int):=bat (S:=(farSet b_ i_ d_ (l_++r_))) (by omega) (by show (k_:Int) < (i_:Int);omega)
      have hvk_:=hv_ k_
      have hgk_:=grid_bd (i:=k_) (by omega)
      have hpx_:((l_++r_).getD k_ dB).mot.px=gX k_:=by rw [hbk_];rfl
      have hpy_:((l_++r_).getD k_ dB).mot.py=gY k_:=by rw [hbk_];rfl
      have hvx_:((l_++r_).getD k_ dB).mot.vx=(V_ k_).x:=by rw [hbk_];rfl
      have hvy_:((l_++r_).getD k_ dB).mot.vy=(V_ k_).y:=by rw [hbk_];rfl
      refine RN.draw [] []<|RD.goP [] [0,1,3,6,4,7,5,8,9] [.own 0,.own 0,.nw] [I64 ((((l_++r_).getD k_ dB).mot.px)+(((l_++r_).getD k_ dB).mot.vx))]<|RD.cp [] 2 (λ X_=>(get_lit (bodyAt (farSet b_ i_ d_ (l_++r_)) (k_:Int)) hg0_ hM2_ (sub_apX 0)))<|RD.go [] [10,11] []<|RD.fx 106 (nt (decide_eq_true (rfl:(((l_++r_).getD k_ dB).mot.px)+(((l_++r_).getD k_ dB).mot.vx)=(((l_++r_).getD k_ dB).mot.px)+(((l_++r_).getD k_ dB).mot.vx))))<|RD.goP [] [12,13,16,19,14,17,20,18,21,22] [.nw,.own 0,.own 0,.nw] [I64 ((((l_++r_).getD k_ dB).mot.py)+(((l_++r_).getD k_ dB).mot.vy)),I64 ((bodyAt (farSet b_ i_ d_ (l_++r_)) (k_:Int))+1)]<|RD.cp [] 15 (λ X_=>(get_lit ((bodyAt (farSet b_ i_ d_ (l_++r_)) (k_:Int))+1) hg1_ hM2_ (sub_apX 0)))<|RD.go [] [23,24,25] []<|RD.fx 120 (nt (decide_eq_true (rfl:(((l_++r_).getD k_ dB).mot.py)+(((l_++r_).getD k_ dB).mot.vy)=(((l_++r_).getD k_ dB).mot.py)+(((l_++r_).getD k_ dB).mot.vy))))<|RD.goP [] [26,27,30,28,31,32] [.nw,.own 0] [I64 ((bodyAt (farSet b_ i_ d_ (l_++r_)) (k_:Int))+2)]<|RD.cp [] 29 (λ X_=>(get_lit ((bodyAt (farSet b_ i_ d_ (l_++r_)) (k_:Int))+2) hg2_ hM2_ (sub_apX 0)))<|RD.go [] [33,34,35] []<|RD.fx 130 (nt (decide_eq_true (rfl:((l_++r_).getD k_ dB).mot.vx=((l_++r_).getD k_ dB).mot.vx))) ?_
      refine RD.goP [] [36,37,40,38,41,42] [.nw,.own 0] [I64 ((bodyAt (farSet b_ i_ d_ (l_++r_)) (k_:Int))+3)]<|RD.cp [] 39 (λ X_=>(get_lit ((bodyAt (farSet b_ i_ d_ (l_++r_)) (k_:Int))+3) hg3_ hM2_ (sub_apX 0)))<|RD.go [] [43,44] []<|RD.fin<|RN.go 1 [] λ _=>RN.fx 139 (nt (decide_eq_true (rfl:((l_++r_).getD k_ dB).mot.vy=((l_++r_).getD k_ dB).mot.vy)))<|RN.goP 9 [.nw] [I64 ((k_:Int)+1)] λ _=>RN.sv 13 (congrArg (λ v_=>(vI v_:Value)) (show (k_:Int)+1=((k_+1:Nat):Int) by omega)) ?_
      refine mt27 (k_+1) [1,2,3,4,5] [0,1] ?_
      try dsimp only
      exact ⟨by omega,by omega⟩
     ·refine RN.go 8 [] λ _=>RN.cp lives20_in<|RN.go 3 [] λ _=>?_
      exact RN.ret [] [] [] ⟨rfl,rfl⟩
    ·(exfalso;simp at h25)
  ·refine RDO.ev [] [] λ n30=>RD.one 4 (RDO.ev [] [] λ n31=>?_)
   refine RD.dn 0 (.rows 3 1 (inrow [dI]) 56 (0,0))<|RD.one 5 (RDO.ct [] [] [0] (etick_run (farSet b_ i_ d_ (l_++r_)) mq_ (n31+0) 0 1 1 1 0 100000 0 none (-1) (-1) (-1) 0 [] [dI] [dI] (FaI (farSet b_ i_ d_ (l_++r_)) V_) (FaF (farSet b_ i_ d_ (l_++r_)) V_) ⟨iniL (farSet b_ i_ d_ (l_++r_)) i_,[],0⟩ Tq_ _ (λ k_ _=>by rw [Nat.zero_add]) (hMq_.weak (by decide)) ⟨far_in ⟨by omega,by omega⟩ hl_ hcl_ hb_ (in_ap 3),in_ap 0,⟨Nat.le_refl 1,(by show 1 <= 1000000;decide)⟩,.nil _⟩ hF_.setV hF_.boxV hF_.sm rfl (FaI.start hF_) (λ _ _ _ _ _ _ h_=>⟨(h_.lt hF_).1,(h_.lt hF_).2,h_.len,h_.bi⟩) (λ _ _ _ _ _ _ h_ h4_=>⟨(h_.tr (g:=(gmN (farSet b_ i_ d_ (l_++r_)) 0 (-1) (-1) (-1) 0 1 [dI] [])) hF_ m1_ m1_ m1_ h4_).1,λ hr_=>absurd (h_.g3 h4_) hr_.2,(h_.tr (g:=(gmN (farSet b_ i_ d_ (l_++r_)) 0 (-1) (-1) (-1) 0 1 [dI] [])) hF_ m1_ m1_ m1_ h4_).2⟩) (λ _ _ _ _ _ _ _ _ _ _ h_ h4_ hc2_ hs3_=>h_.col hF_ h4_ hc2_ hs3_) (far_w hF_)) ?_)
   rintro _ ⟨N_,es_,A2_,c2_,E2_,T2_,p2_,q2_,s2_⟩ ⟨hf_,hM2_,hs2_,rfl⟩
   dsimp only at hf_ hM2_ hs2_
   obtain ⟨ef1_,ef2_,ef3_,e1_,e2_,e3_⟩:=hf_
   subst ef1_ e1_ e2_ e3_
   refine RD.go [] [6,7,8,9,11] []<|RD.one 12 (RDO.ev [] [.own 1,.own 1,.own 1] λ _=>?_)
   refine RD.go [] [13] []<|RD.fin<|RN.goP 17 [.own 1,.own 1,.own 1,.nw,.nw,.sq] [I64 ((i_:Int) * ((i_:Int) - 1)),I64 ((i_:Int) - 1)] λ _=>RN.eB ((decide (0=0) && (decide (0=0) && (decide ((i_:Int) * ((i_:Int) - 1)=(i_:Int) * ((i_:Int) - 1)) && true)))) 80 (λ h32=>?_) λ h32=>?_
   ·refine RN.go 10 [] λ _=>RN.loop (σ:=Nat) (λ k_=>⟨[(5,vI (i_:Int)),(6,vP (n1+0) 0),(9,vP mq_ 0),(13,vI (k_:Int))],[((n31+0),.rows 3 1 (inrow [dI]) 56 (0,0)),((n30+0),.lit [vI 0,vI 0,vI ((i_:Int) * ((i_:Int) - 1))] 46 (0,0)),(q0_,.rows 1 ((sizeOf (farSet b_ i_ d_ (l_++r_))).toNat) (irow (iniL (farSet b_ i_ d_ (l_++r_)) i_)) 3 (0,0)),(b_,.rows 9 d_ (rowE bodE (l_++r_)) 39 (0,0)),((n1+0),.lit [vI 1,vS b_ 0 i_ d_,vI (-100000),vI (-100000),vI 100000,vI 100000,.slice none 0 0,.slice none 0 0,vI 0,vI 0,vI 0,vI 0,vI 0,vI 0,vI 2,vI 5] 32 (0,0))],[T2_,E2_],k_ <= i_,i_ - k_⟩) 0 [0,1,2,3,4] [0,1] (Nat.zero_le _) ?_
    rintro k_ hi2_ mt34
    refine RN.go 8 [] λ _=>RN.em ((k_:Int) < (i_:Int)) 83 (λ h35=>?_) λ h35=>?_
    ·refine RN.goP 21 ([.own 4,.ix k_,.row 3 k_ 2,.row 3 k_ 3,.row 3 k_ 4,.row 3 k_ 5,.row 3 k_ 6]++ow 0 5++ow 5 16) [((0+k_ * 9)+6)=k_ * 9+6 /\ k_ < d_,((0+k_ * 9)+5)=k_ * 9+5 /\ k_ < d_,((0+k_ * 9)+4)=k_ * 9+4 /\ k_ < d_,((0+k_ * 9)+3)=k_ * 9+3 /\ k_ < d_,((0+k_ * 9)+2)=k_ * 9+2 /\ k_ < d_,(k_:Int)=((k_:Nat):Int) /\ k_ < i_] λ n36=>RN.cp (lbody_any (farSet b_ i_ d_ (l_++r_)) (k_:Int) _ hSN_)<|RN.go 4 [] λ _=>?_
     have hm_:=ef3_ k_ (by show k_ < i_;omega)
     rw [if_pos (show k_ < i_ by omega)] at hm_
     have hbk_:(l_++r_).getD k_ dB=farBod V_ k_:=by rw [getD_app (by omega)];exact hb_ k_ (by omega)
     have hg0_:N_.get (bodyAt (farSet b_ i_ d_ (l_++r_)) (k_:Int))=(((l_++r_).getD k_ dB).mot.px)+(((l_++r_).getD k_ dB).mot.vx):=by rw [hbk_,<- Int.add_zero (bodyAt (farSet b_ i_ d_ (l_++r_)) (k_:Int))];exact congrArg Mot.px hm_
     have hg1_:N_.get (bodyAt (farSet b_ i_ d_ (l_++r_)) (k_:Int)+1)=(((l_++r_).getD k_ dB).mot.py)+(((l_++r_).getD k_ dB).mot.vy):=by rw [hbk_];exact congrArg Mot.py hm_
     have hg2_:N_.get (bodyAt (farSet b_ i_ d_ (l_++r_)) (k_:Int)+2)=((l_++r_).getD k_ dB).mot.vx:=by rw [hbk_];exact congrArg Mot.vx hm_
     have hg3_:N_.get (bodyAt (farSet b_ i_ d_ (l_++r_)) (k_:Int)+3)=((l_++r_).getD k_ dB).mot.vy:=by rw [hbk_];exact congrArg Mot.vy hm_
     have hbt_:bodyAt (farSet b_ i_ d_ (l_++r_)) (k_:Int)=48+4 * 1+8 * (k_:Int):=bat (S:=(farSet b_ i_ d_ (l_++r_))) (by omega) (by show (k_:Int) < (i_:Int);omega)
     have hvk_:=hv_ k_
     have hgk_:=grid_bd (i:=k_) (by omega)
     have hpx_:((l_++r_).getD k_ dB).mot.px=gX k_:=by rw [hbk_];rfl
     have hpy_:((l_++r_).getD k_ dB).mot.py=gY k_:=by rw [hbk_];rfl
     have hvx_:((l_++r_).getD k_ dB).mot.vx=(V_ k_).x:=by rw [hbk_];rfl
     have hvy_:((l_++r_).getD k_ dB).mot.vy=(V_ k_).y:=by rw [hbk_];rfl
     refine RN.draw [] []<|RD.goP [] [0,1,3,6,4,7,5,8,9] [.own 0,.own 0,.nw] [I64 ((((l_++r_).getD k_ dB).mot.px)+(((l_++r_).getD k_ dB).mot.vx))]<|RD.cp [] 2 (λ X_=>(get_lit (bodyAt (farSet b_ i_ d_ (l_++r_)) (k_:Int)) hg0_ hM2_ (sub_apX 0)))<|RD.go [] [10,11] []<|RD.fx 106 (nt (decide_eq_true (rfl:(((l_++r_).getD k_ dB).mot.px)+(((l_++r_).getD k_ dB).mot.vx)=(((l_++r_).getD k_ dB).mot.px)+(((l_++r_).getD k_ dB).mot.vx))))<|RD.goP [] [12,13,16,19,14,17,20,18,21,22] [.nw,.own 0,.own 0,.nw] [I64 ((((l_++r_).getD k_ dB).mot.py)+(((l_++r_).getD k_ dB).mot.vy)),I64 ((bodyAt (farSet b_ i_ d_ (l_++r_)) (k_:Int))+1)]<|RD.cp [] 15 (λ X_=>(get_lit ((bodyAt (farSet b_ i_ d_ (l_++r_)) (k_:Int))+1) hg1_ hM2_ (sub_apX 0)))<|RD.go [] [23,24,25] []<|RD.fx 120 (nt (decide_eq_true (rfl:(((l_++r_).getD k_ dB).mot.py)+(((l_++r_).getD k_ dB).mot.vy)=(((l_++r_).getD k_ dB).mot.py)+(((l_++r_).getD k_ dB).mot.vy))))<|RD.goP [] [26,27,30,28,31,32] [.nw,.own 0] [I64 ((bodyAt (farSet b_ i_ d_ (l_++r_)) (k_:Int))+2)]<|RD.cp [] 29 (λ X_=>(get_lit ((bodyAt (farSet b_ i_ d_ (l_++r_)) (k_:Int))+2) hg2_ hM2_ (sub_apX 0)))<|RD.go [] [33,34,35] []<|RD.fx 130 (nt (decide_eq_true (rfl:((l_++r_).getD k_ dB).mot.vx=((l_++r_).getD k_ dB).mot.vx))) ?_
     refine RD.goP [] [36,37,40,38,41,42] [.nw,.own 0] [I64 ((bodyAt (farSet b_ i_ d_ (l_++r_)) (k_:Int))+3)]<|RD.cp [] 39 (λ X_=>(get_lit ((bodyAt (farSet b_ i_ d_ (l_++r_)) (k_:Int))+3) hg3_ hM2_ (sub_apX 0)))<|RD.go [] [43,44] []<|RD.fin<|RN.go 1 [] λ _=>RN.fx 139 (nt (decide_eq_true (rfl:((l_++r_).getD k_ dB).mot.vy=((l_++r_).getD k_ dB).mot.vy)))<|RN.goP 9 [.nw] [I64 ((k_:Int)+1)] λ _=>RN.sv 13 (congrArg (λ v_=>(vI v_:Value)) (show (k_:Int)+1=((k_+1:Nat):Int) by omega)) ?_
     refine mt34 (k_+1) [1,2,3,4,5] [0,1] ?_
     try dsimp only
     exact ⟨by omega,by omega⟩
    ·refine RN.go 8 [] λ _=>RN.cp lives20_in<|RN.go 3 [] λ _=>?_
     exact RN.ret [] [] [] ⟨rfl,rfl⟩
   ·(exfalso;simp at h32)
open Go.ChangeShapes Go.WideShapes Go.ChangeAt
theorem own_knob:ownKnob Tryz.prog.godebug=none:=by kernel_rfl
theorem laid_out:laidOutB Tryz.prog=true:=by kernel_rfl
theorem int_range {n:Int} (h:(Lit.int .i64 n).wf=true):-9223372036854775808 <= n /\ n <= 9223372036854775807:=bounds_i64 h
section
variable {H:Type} {enc:TypeId × Value -> H} {P:Program} {W W':World}
theorem trodAll_below (hl:laidOutB P=true) (hb:Below W.heap.size W W'):∀ {ts:List TypeId} {vs:List Value} {ds:List (DataW H)} {ps:List MemPlace},(∀ t ∈ ts,P.readableRec t=true /\ t < P.types.size) ->
    DataW.TrodAll enc P W 0 (λ _=>true) true ts vs ds ps -> (∀ x ∈ ps,x.block < W.heap.size) -> DataW.TrodAll enc P W' 0 (λ b=>decide (b < W.heap.size)) true ts vs ds ps
  | [],_,_,_,_,h,_=>by
    obtain ⟨rfl,rfl,rfl⟩:=trodAll_nil h
    exact trodAll_mk0
  | t :: ts,_,_,_,ht,h,hlt=>by
    obtain ⟨v,vs1,d,ds1,a,b,rfl,rfl,rfl,h1,h2⟩:=trodAll_cons h
    have h3:=ht t (by simp)
    exact trodAll_cons_mk (Below.trod hl h3.1 h3.2 h1 hb (λ x hx=>hlt x (by simp [hx]))) (trodAll_below hl hb (λ t h=>ht t (List.mem_cons_of_mem _ h)) h2 (λ x hx=>hlt x (by simp [hx])))
theorem post_law {f:Func} {s:ChangeSpec} {apart fresh handsOn:Bool} {args:Array Value} {v:Value} {ds:List (DataW H)} {before:List MemPlace} (hl:laidOutB P=true)
    (hts:∀ t ∈ f.params.toList,P.readableRec t=true /\ t < P.types.size)
    (hW:DataW.Whole enc P f.params.toList s.vars apart W args.toList ds [] before) (hs:s.vars=[])
    (hA:DataW.TrodAll enc P W 0 (λ _=>true) true f.params.toList args.toList ds before)
    (hres:∀ (b:Nat) (sp:Nat -> Bool) (hd:Bool),DataW.TrodAll enc P W' b sp hd f.resultTypes.toList (v.resultList f.resultTypes.size) (s.fn H (ds++[])).results [])
    (hargs:(s.fn H (ds++[])).args=ds) (hvars:∀ sp,DataW.TrodVars enc P W' sp s.vars (s.fn H (ds++[])).vars []) (hb:Below W.heap.size W W') :
    s.post enc P f apart fresh handsOn false W args v W':=by
  refine ⟨ds,[],before,[],before,[],hW,hres _ _ _,?_,hvars _,hb.frame _,λ h=>by cases h⟩
  rw [hargs]
  exact trodAll_below hl hb hts hA (λ x hx=>hW.lt x hx)
end
def blkOf:Obj -> Blk
  | .cells cs ty fz=>.rows 1 cs.size (λ i _=>cs.getD i default) ty fz
  | o=>.obj o
theorem blkOf_den (o:Obj):(blkOf o).den=o:=by
  cases o with
  | cells cs ty fz =>
    show Obj.cells ⟨rowsOf 1 (λ i _=>cs.getD i default) cs.size⟩ ty fz=_
    congr 1
    have e:rowsOf 1 (λ i _=>cs.getD i default) cs.size=cs.toList:=by
      refine rowsOf_ext (by simp) ?_
      intro i k hi hk
      obtain rfl:k=0:=by omega
      simp [Array.getD,hi]
    rw [e]
  | _=>rfl
def worldF (w:World):HL:=List.ofFn (λ k:Fin w.heap.size=>(k.1,blkOf w.heap[k.1]))
theorem worldF_mem {w:World} {k:Nat} {o:Obj} (h:w.heap[k]?=some o):(k,blkOf o) ∈ worldF w:=by
  obtain ⟨hk,he⟩:=Array.getElem?_eq_some_iff.1 h
  exact List.mem_ofFn.2 ⟨⟨k,hk⟩,by simp [he]⟩
theorem worldF_rel (w:World):Rel (worldF w) w:=by
  refine ⟨λ x hx=>?_,?_⟩
  · obtain ⟨k,rfl⟩:=List.mem_ofFn.1 hx
    simp [blkOf_den]
  · unfold worldF
    rw [List.map_ofFn]
    have e:List.ofFn ((λ x:Nat × Blk=>x.1) ∘ λ k:Fin w.heap.size=>(k.1,blkOf w.heap[k.1]))=List.range w.heap.size:=by
      apply List.ext_getElem
      · simp
      · intro i h1 h2;simp
    rw [e]
    exact List.nodup_range
theorem Sp.callsW {P:Program} {f:FuncId} {args:Array Value} {v:Value} (w:World) (h:Sp P f args [] (worldF w) (λ u H'=>u=v /\ H'=[])):Calls P f args w λ e w'=>e=.returned v /\ Below w.heap.size w w':=by
  refine (h w (worldF_rel w)).mono ?_
  rintro e w' ⟨u,H',rfl,⟨rfl,rfl⟩,hR',hB⟩
  refine ⟨rfl,hB.os,hB.tape,hB.output,hB.size,λ k hk=>?_⟩
  have:=hR'.holds (k,blkOf w.heap[k]) (by rw [List.nil_append];exact worldF_mem (by simp [hk]))
  rw [this]
  simp [blkOf_den,hk]
theorem open_arg {H:Type} {enc:TypeId × Value -> H} {w:World} {r:Reach} {b0:Nat} {v:Value} {d:DataW H} {ps:List MemPlace} (hval:Value.okWide Tryz.prog w r b0 22 v) (hd:DataW.Trod enc Tryz.prog w 0 (λ _=>true) true 22 v d ps) :
    ∃ (A:Option Addr) (n cap:Nat) (xs:List Int),v=.slice A n cap /\ n <= 9223372036854775807 /\ ArgL (worldF w) A n xs /\ n <= cap:=by
  obtain ⟨a0,len,cap,rfl⟩:=okWide_slice Tryz.underlying22 hval
  obtain ⟨fuel,hf⟩:=hd
  rcases open_ints Tryz.underlying22 Tryz.underlying3 (by kernel_rfl) hf with ⟨hcs,hx⟩ | ⟨a,len',cap',zs,hcs,_,hl,hm,hz,hx,hcell,hwz⟩
  · simp [Value.cells] at hcs
    obtain ⟨rfl,rfl,rfl⟩:=hcs
    exact ⟨none,0,0,[],rfl,by omega,.zero _,Nat.le_refl _⟩
  · simp [Value.cells] at hcs
    obtain ⟨rfl,rfl,rfl⟩:=hcs
    unfold maxLen at hm
    simp at hz
    rcases Nat.eq_zero_or_pos len with h0 | hpos
    · subst h0
      exact ⟨some a,0,_,[],rfl,by omega,.zero _,Nat.zero_le _⟩
    · have hlz:len <= zs.length:=by omega
      obtain ⟨b,off,spot⟩:=a
      have c0:=hcell 0 (by omega)
      have hsp:spot=none:=by
        cases spot with
        | none=>rfl
        | some s=>simp [Addr.add,World.cell?] at c0;split at c0 <;> simp at c0
      subst hsp
      have hc:∀ i,i < zs.length -> w.cell? ⟨b,off+i,none⟩=some (.int .i64 (zs.getD i 0)):=λ i hi=>by
        have:=hcell i hi
        unfold Addr.add at this
        by_cases h:i=0
        · subst h;simpa using this
        · rw [if_neg h] at this;exact this
      have h0:=hc 0 (by omega)
      unfold World.cell? at h0
      split at h0
      case h_2=>cases h0
      rename_i cs ty fz hb
      refine ⟨some ⟨b,off,none⟩,len,cap,zs.take len,rfl,by omega,?_,hl⟩
      have hlen:(zs.take len).length=len:=by rw [List.length_take];omega
      have hcs:∀ k,k < len -> cs[off+k]?=some (vI ((zs.take len).getD k 0)):=λ k hk=>by
        have h1:=hc k (by omega)
        unfold World.cell? at h1
        rw [show w.heap[(⟨b,off+k,none⟩:Addr).block]?=some (.cells cs ty fz) from hb] at h1
        have h2:cs[off+k]?=some (.int .i64 (zs.getD k 0)):=by simpa using h1
        rw [h2]
        simp [List.getD_eq_getElem?_getD,List.getElem?_take,hk]
      have hmem:=worldF_mem hb
      have hle:off+len <= cs.size:=by
        have h1:=hcs (len - 1) (by omega)
        have h2:=(Array.getElem?_eq_some_iff.1 h1).1
        omega
      have:=ArgL.cells (F:=worldF w) b off cs.size (λ i _=>cs.getD i default) ty fz (zs.take len) hmem (by rw [hlen];exact hle) (λ k hk=>by
        rw [hlen] at hk
        have h1:=hcs k hk
        simp only [Array.getD_eq_getD_getElem?]
        rw [h1];rfl) (λ k hk=>by
        rw [hlen] at hk
        have:(zs.take len).getD k 0 ∈ zs:=by
          rw [List.getD_eq_getElem?_getD,List.getElem?_eq_getElem (by omega)]
          exact List.mem_of_mem_take (List.getElem_mem _)
        exact int_range (hwz _ this))
      rw [hlen] at this
      exact this
theorem farr_lifted (os:Os) (started:os.Started) (H:Type) (enc:TypeId × Value -> H) :
    ReturnsInHanded {} Tryz.checked os 3 .any (Rows.engineFarSpec.pre6 enc Tryz.prog Tryz.f3 Rows.engineFarRow.domain false) (Rows.engineFarSpec.post enc Tryz.prog Tryz.f3 false true false false):=by
  refine returnsInHanded_of_change (C:=Tryz.checked) own_knob started (by kernel_rfl) Tryz.func3
    (ChangeSpec.witness6 (enc:=enc) (C:=Tryz.checked) false ⟨#[],#[.int .i64 0,.slice none 0 0],[]⟩ 8 (by kernel_rfl) (by kernel_rfl) (by kernel_rfl) (by kernel_rfl)) ?_
  intro W base args ds gs before hval0 hW hcnd _
  have hval:∀ (j:Nat) t v,Tryz.f3.params[j]?=some t -> args[j]?=some v -> Value.okWide Tryz.prog W .any base t v:=hval0
  have hW':=hW
  obtain ⟨p,q,hA0,hV,rfl,hfz,hnd⟩:=hW
  have hA:DataW.TrodAll enc Tryz.prog W 0 (λ _=>true) true Tryz.f3.params.toList args.toList ds p:=hA0
  have hAA:=hA
  rw [Tryz.params3] at hA hval
  obtain ⟨v0,vs0,d0,ds0,p0,q0,hargs,rfl,rfl,h0r,r0⟩:=trodAll_cons hA
  obtain ⟨v1,vs1,d1,ds1,p1,q1,rfl,rfl,rfl,h1r,r1⟩:=trodAll_cons r0
  obtain ⟨rfl,rfl,rfl⟩:=trodAll_nil r1
  obtain rfl:args=#[v0,v1]:=by cases args;simp_all
  obtain ⟨rfl,rfl⟩:=trodVars_none hV
  obtain ⟨a0,rfl,rfl,rfl,w0z⟩:=open_int Tryz.underlying3 (hval 0 3 v0 rfl rfl) h0r
  have w0:=int_range w0z
  obtain ⟨A1,n1,c1,x1,rfl,b1,h1,k1⟩:=open_arg (hval 1 22 v1 rfl rfl) h1r
  clear hA0 hval0
  simp only [List.append_nil,List.nil_append] at hW' hAA
  refine (Sp.callsW W (far_any A1 n1 c1 x1 a0 (worldF W) (h1.d rfl) b1 w0)).mono λ e W' ⟨he,hb⟩=>?_
  subst he
  exact ⟨_,rfl,post_law laid_out (by rw [Tryz.params3];intro t ht;simp at ht;rcases ht with rfl | rfl <;> exact ⟨by kernel_rfl,of_decide_eq_true (by kernel_rfl)⟩) hW' rfl hAA (λ _ _ _=>trodAll_cons_mk (shut_bool Tryz.underlying4 _) trodAll_mk0) rfl (λ _=>rfl) hb⟩
theorem farr_inPlace:(Rows.engineFarRow.inPlace == Tryz.prog.inPlace 3)=true:=by kernel_rfl
theorem farr_varsNamed:(Rows.engineFarRow.named == Tryz.prog.varsNamed 3)=true:=by kernel_rfl
theorem farr_unfollowed:(Rows.engineFarRow.unfollowed == Tryz.prog.unfollowed 3)=true:=by kernel_rfl
theorem farr_recurses:(Rows.engineFarRow.recurses == Tryz.prog.recurses 3)=true:=by kernel_rfl
theorem farr_laidOut:laidOutB Tryz.prog=true:=by kernel_rfl
theorem farr_mapsRowed:mapsRowed Tryz.prog=true:=by kernel_rfl
theorem farr_plainKeys:(Rows.engineFarRow.plainKeys == Tryz.prog.plainKeys)=true:=by kernel_rfl
theorem farr_enter:Tryz.prog.mayEnter=true:=by kernel_rfl
theorem farr_heard:Tryz.prog.stopsHeard=true:=by kernel_rfl
end Go.Proofs.YthoijjeddhfcnaaGreat
