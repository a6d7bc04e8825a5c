import Derived.Test.YtgibcbhfmomfbaaGreatDoorQ42
set_option maxHeartbeats 4000000
set_option maxRecDepth 100000
set_option linter.unusedSimpArgs false
set_option linter.unusedVariables false
namespace Go.Proofs.YtgibcbhfmomfbaaGreatDoor
open Go.RowKit
theorem rvalidate_any (S:Setup) (rs:List Bx) (ds:List Dr) (F:HL) (hS:SetSh F S) (hM:MapIn F S rs ds):Sp Tryz.prog 10 #[(Setup.v S)] [] F (λ u H'=>u=vI (valE S rs ds) /\ H'=[]):=by
 have hn:=hS.nb
 have hr:=hS.room
 refine Sp.run Tryz.func10 rfl (mc hS.blk mn) (A:=[]) (Ts:=[]) rfl λ w0=>?_
 refine RN.go 13 [] λ n1=>RN.loop (σ:=Nat) (λ k=>⟨[(1,vP (n1+0) 0),(3,vI (k:Int))],[((n1+0),.lit (Setup.l S) 33 (0,0))],[],k <= S.nb /\ ∀ t,t < k -> shOk (S.body t).sh,S.nb - k⟩) 0 [0] [] (⟨Nat.zero_le _,λ t ht=>absurd ht (Nat.not_lt_zero _)⟩) ?_
 rintro k ⟨hkl,hsh⟩ mt3
 refine RN.go 10 [.own 0] λ _=>RN.em ((k:Int) < (S.nb:Int)) 17 (λ h4=>?_) λ h4=>?_
 ·refine RN.goP 13 [.own 0,.ix k,.rorow 0 (S.bo+k) 0,.rorow 0 (S.bo+k) 1] [((S.bo * 9+k * 9)+1)=(S.bo+k) * 9+1 /\ (S.bo+k) < S.bR,(S.bo * 9+k * 9)=(S.bo+k) * 9+0 /\ (S.bo+k) < S.bR,(k:Int)=((k:Nat):Int) /\ k < S.nb] λ _=>RN.cp (rval_any ((S.bods.getD (S.bo+k) dB).sh) _ (hS.pol k (by omega)).1.up (hS.pol k (by omega)).2)<|RN.go 9 [] λ _=>RN.en (shOk ((S.bods.getD (S.bo+k) dB).sh)) 28 (λ h5=>?_) λ h5=>?_
  ·refine RN.goP 9 [.nw] [I64 ((k:Int)+1)] λ _=>?_
   refine mt3 (k+1) [0] [] ?_
   try dsimp only
   refine ⟨⟨by omega,λ t ht=>?_⟩,by omega⟩
   rcases Nat.lt_or_ge t k with h_ | h_
   ·exact hsh t h_
   ·obtain rfl:t=k:=by omega
    exact h5
  ·refine RN.go 6 [] λ _=>RN.ret [] [] [] (v:=vI 10) (H':=[]) ?_
   exact ⟨congrArg vI (show 10=valE S rs ds by rw [valE,if_neg (show ¬ ∀ k,k < S.nb -> shOk (S.body k).sh from λ h_=>h5 (h_ k (by omega)))]),rfl⟩
 ·refine RN.go 13 [.own 0] λ _=>RN.em (S.players < 1) 32 (λ h6=>?_) λ h6=>?_
  ·refine RN.go 38 [] λ _=>RN.ret [] [] [] (v:=vI 11) (H':=[]) ?_
   exact ⟨congrArg vI (valE_11 (show ∀ k,k < S.nb -> shOk (S.body k).sh from λ t ht=>hsh t (by omega)) λ h_=>by have h2_:=vnumP_iff.1 h_.1.1;have h3_:=h_.1.2.2.1;omega),rfl⟩
  ·refine RN.go 5 [.own 0] λ _=>RN.em (S.players > 8) 37 (λ h7=>?_) λ h7=>?_
   ·refine RN.go 33 [] λ _=>RN.ret [] [] [] (v:=vI 11) (H':=[]) ?_
    exact ⟨congrArg vI (valE_11 (show ∀ k,k < S.nb -> shOk (S.body k).sh from λ t ht=>hsh t (by omega)) λ h_=>by have h2_:=vnumP_iff.1 h_.1.1;have h3_:=h_.1.2.2.1;omega),rfl⟩
   ·refine RN.go 8 [.own 0,.own 0] λ _=>RN.em ((S.nb:Int) < S.players) 45 (λ h8=>?_) λ h8=>?_
    ·refine RN.go 25 [] λ _=>RN.ret [] [] [] (v:=vI 11) (H':=[]) ?_
     exact ⟨congrArg vI (valE_11 (show ∀ k,k < S.nb -> shOk (S.body k).sh from λ t ht=>hsh t (by omega)) λ h_=>by have h2_:=vnumP_iff.1 h_.1.1;have h3_:=h_.1.2.2.1;omega),rfl⟩
    ·refine RN.go 6 [.own 0] λ _=>RN.em ((S.nb:Int) > 24) 51 (λ h9=>?_) λ h9=>?_
     ·refine RN.go 19 [] λ _=>RN.ret [] [] [] (v:=vI 11) (H':=[]) ?_
      exact ⟨congrArg vI (valE_11 (show ∀ k,k < S.nb -> shOk (S.body k).sh from λ t ht=>hsh t (by omega)) λ h_=>by have h2_:=vnumP_iff.1 h_.1.1;have h3_:=h_.1.2.2.1;omega),rfl⟩
     ·refine RN.go 6 [.own 0] λ _=>RN.em ((S.rn:Int) > 8) 57 (λ h10=>?_) λ h10=>?_
      ·refine RN.go 13 [] λ _=>RN.ret [] [] [] (v:=vI 11) (H':=[]) ?_
       exact ⟨congrArg vI (valE_11 (show ∀ k,k < S.nb -> shOk (S.body k).sh from λ t ht=>hsh t (by omega)) λ h_=>by have h2_:=vnumP_iff.1 h_.1.1;have h3_:=h_.1.2.2.1;omega),rfl⟩
      ·refine RN.go 7 [.own 0] λ _=>RN.em ((S.dn:Int) > 16) 62 (λ h11=>?_) λ h11=>?_
       ·refine RN.go 6 [] λ _=>RN.ret [] [] [] (v:=vI 11) (H':=[]) ?_
        exact ⟨congrArg vI (valE_11 (show ∀ k,k < S.nb -> shOk (S.body k).sh from λ t ht=>hsh t (by omega)) λ h_=>by have h2_:=vnumP_iff.1 h_.1.1;have h3_:=h_.1.2.2.1;omega),rfl⟩
       ·refine RN.go 7 [.own 0,.own 0,.own 0,.own 0] λ _=>RN.cp (rproper_any S.box  _)<|RN.go 10 [] λ _=>RN.en (properP S.box) 67 (λ h12=>?_) λ h12=>?_
        ·refine RN.go 10 [] λ _=>RN.loop (σ:=Nat) (λ j=>⟨[(1,vP (n1+0) 0),(6,vI (j:Int))],[((n1+0),.lit (Setup.l S) 33 (0,0))],[],j <= S.nb /\ ∀ t,t < j -> vbodyP (S.body t) S.box,S.nb - j⟩) 0 [0] [] (⟨Nat.zero_le _,λ t ht=>absurd ht (Nat.not_lt_zero _)⟩) ?_
         rintro j ⟨hjl,hvb⟩ mt14
         refine RN.go 10 [.own 0] λ _=>RN.em ((j:Int) < (S.nb:Int)) 72 (λ h15=>?_) λ h15=>?_
         ·refine RN.goP 29 ([.own 0,.ix j,.rorow 0 (S.bo+j) 0,.rorow 0 (S.bo+j) 1,.rorow 0 (S.bo+j) 2,.rorow 0 (S.bo+j) 3,.rorow 0 (S.bo+j) 4,.rorow 0 (S.bo+j) 5,.rorow 0 (S.bo+j) 6,.rorow 0 (S.bo+j) 7,.rorow 0 (S.bo+j) 8]++ow 0 20) [((S.bo * 9+j * 9)+8)=(S.bo+j) * 9+8 /\ (S.bo+j) < S.bR,((S.bo * 9+j * 9)+7)=(S.bo+j) * 9+7 /\ (S.bo+j) < S.bR,((S.bo * 9+j * 9)+6)=(S.bo+j) * 9+6 /\ (S.bo+j) < S.bR,((S.bo * 9+j * 9)+5)=(S.bo+j) * 9+5 /\ (S.bo+j) < S.bR,((S.bo * 9+j * 9)+4)=(S.bo+j) * 9+4 /\ (S.bo+j) < S.bR,((S.bo * 9+j * 9)+3)=(S.bo+j) * 9+3 /\ (S.bo+j) < S.bR,((S.bo * 9+j * 9)+2)=(S.bo+j) * 9+2 /\ (S.bo+j) < S.bR,((S.bo * 9+j * 9)+1)=(S.bo+j) * 9+1 /\ (S.bo+j) < S.bR,(S.bo * 9+j * 9)=(S.bo+j) * 9+0 /\ (S.bo+j) < S.bR,(j:Int)=((j:Nat):Int) /\ j < S.nb] λ n16=>RN.cp (rin_any ((S.bods.getD (S.bo+j) dB).mot.inv) 0 4096  _)<|RN.go 2 [] λ _=>RN.en (rinP ((S.bods.getD (S.bo+j) dB).mot.inv) 0 4096) 86 (λ h17=>?_) λ h17=>?_
          ·refine RN.go 3 [.own 0] λ _=>RN.cp (rin_any ((S.bods.getD (S.bo+j) dB).mot.vx) (-16384) 16384  _)<|RN.go 3 [] λ _=>RN.en (rinP ((S.bods.getD (S.bo+j) dB).mot.vx) (-16384) 16384) 93 (λ h18=>?_) λ h18=>?_
           ·refine RN.go 3 [.own 0] λ _=>RN.cp (rin_any ((S.bods.getD (S.bo+j) dB).mot.vy) (-16384) 16384  _)<|RN.go 4 [] λ _=>RN.en (rinP ((S.bods.getD (S.bo+j) dB).mot.vy) (-16384) 16384) 99 (λ h19=>?_) λ h19=>?_
            ·refine RN.go 15 [.own 0,.own 2,.own 2] λ _=>RN.cp (rin_any ((S.bods.getD (S.bo+j) dB).mot.px) S.box.x0 S.box.x1  _)<|RN.go 2 [] λ _=>RN.en (rinP ((S.bods.getD (S.bo+j) dB).mot.px) S.box.x0 S.box.x1) 111 (λ h20=>?_) λ h20=>?_
             ·refine RN.go 9 [.own 0,.own 2,.own 2] λ _=>RN.cp (rin_any ((S.bods.getD (S.bo+j) dB).mot.py) S.box.y0 S.box.y1  _)<|RN.go 4 [] λ _=>RN.en (rinP ((S.bods.getD (S.bo+j) dB).mot.py) S.box.y0 S.box.y1) 123 (λ h21=>?_) λ h21=>?_
              ·refine RN.go 7 [.own 1] λ _=>RN.cp (rin_any ((S.bods.getD (S.bo+j) dB).a) (-2147483647) 2147483647  _)<|RN.go 2 [] λ _=>RN.en (rinP ((S.bods.getD (S.bo+j) dB).a) (-2147483647) 2147483647) 128 (λ h22=>?_) λ h22=>?_
               ·refine RN.go 2 [.own 1] λ _=>RN.cp (rin_any ((S.bods.getD (S.bo+j) dB).b) (-2147483647) 2147483647  _)<|RN.go 4 [] λ _=>RN.en (rinP ((S.bods.getD (S.bo+j) dB).b) (-2147483647) 2147483647) 133 (λ h23=>?_) λ h23=>?_
                ·refine RN.goP 9 [.nw] [I64 ((j:Int)+1)] λ _=>?_
                 refine mt14 (j+1) [2] [] ?_
                 try dsimp only
                 refine ⟨⟨by omega,λ t ht=>?_⟩,by omega⟩
                 rcases Nat.lt_or_ge t j with h_ | h_
                 ·exact hvb t h_
                 ·obtain rfl:t=j:=by omega
                  exact (show vbodyP (S.bods.getD (S.bo+t) dB) S.box from vbodyP_iff.2 (by unfold rinP at *;omega))
                ·refine RN.go 6 [] λ _=>RN.ret [] [] [] (v:=vI 11) (H':=[]) ?_
                 exact ⟨congrArg vI (valE_11 (show ∀ k,k < S.nb -> shOk (S.body k).sh from λ t ht=>hsh t (by omega)) λ h_=>by have h2_:=vbodyP_iff.1 (show vbodyP (S.bods.getD (S.bo+j) dB) S.box from h_.2 j (by omega));unfold rinP at *;omega),rfl⟩
               ·refine RN.go 13 [] λ _=>RN.ret [] [] [] (v:=vI 11) (H':=[]) ?_
                exact ⟨congrArg vI (valE_11 (show ∀ k,k < S.nb -> shOk (S.body k).sh from λ t ht=>hsh t (by omega)) λ h_=>by have h2_:=vbodyP_iff.1 (show vbodyP (S.bods.getD (S.bo+j) dB) S.box from h_.2 j (by omega));unfold rinP at *;omega),rfl⟩
              ·refine RN.go 6 [] λ _=>RN.ret [] [] [] (v:=vI 11) (H':=[]) ?_
               exact ⟨congrArg vI (valE_11 (show ∀ k,k < S.nb -> shOk (S.body k).sh from λ t ht=>hsh t (by omega)) λ h_=>by have h2_:=vbodyP_iff.1 (show vbodyP (S.bods.getD (S.bo+j) dB) S.box from h_.2 j (by omega));unfold rinP at *;omega),rfl⟩
             ·refine RN.go 20 [] λ _=>RN.ret [] [] [] (v:=vI 11) (H':=[]) ?_
              exact ⟨congrArg vI (valE_11 (show ∀ k,k < S.nb -> shOk (S.body k).sh from λ t ht=>hsh t (by omega)) λ h_=>by have h2_:=vbodyP_iff.1 (show vbodyP (S.bods.getD (S.bo+j) dB) S.box from h_.2 j (by omega));unfold rinP at *;omega),rfl⟩
            ·refine RN.go 6 [] λ _=>RN.ret [] [] [] (v:=vI 11) (H':=[]) ?_
             exact ⟨congrArg vI (valE_11 (show ∀ k,k < S.nb -> shOk (S.body k).sh from λ t ht=>hsh t (by omega)) λ h_=>by have h2_:=vbodyP_iff.1 (show vbodyP (S.bods.getD (S.bo+j) dB) S.box from h_.2 j (by omega));unfold rinP at *;omega),rfl⟩
           ·refine RN.go 14 [] λ _=>RN.ret [] [] [] (v:=vI 11) (H':=[]) ?_
            exact ⟨congrArg vI (valE_11 (show ∀ k,k < S.nb -> shOk (S.body k).sh from λ t ht=>hsh t (by omega)) λ h_=>by have h2_:=vbodyP_iff.1 (show vbodyP (S.bods.getD (S.bo+j) dB) S.box from h_.2 j (by omega));unfold rinP at *;omega),rfl⟩
          ·refine RN.go 21 [] λ _=>RN.ret [] [] [] (v:=vI 11) (H':=[]) ?_
           exact ⟨congrArg vI (valE_11 (show ∀ k,k < S.nb -> shOk (S.body k).sh from λ t ht=>hsh t (by omega)) λ h_=>by have h2_:=vbodyP_iff.1 (show vbodyP (S.bods.getD (S.bo+j) dB) S.box from h_.2 j (by omega));unfold rinP at *;omega),rfl⟩
         ·refine RN.go 13 [] λ _=>RN.loop (σ:=Nat) (λ i=>⟨[(1,vP (n1+0) 0),(9,vI (i:Int))],[((n1+0),.lit (Setup.l S) 33 (0,0))],[],i <= S.rn /\ ∀ t,t < i -> properP (rs.getD t bxE.dflt),S.rn - i⟩) 0 [0] [] (⟨Nat.zero_le _,λ t ht=>absurd ht (Nat.not_lt_zero _)⟩) ?_
          rintro i ⟨hil,hrm⟩ mt25
          refine RN.go 10 [.own 0] λ _=>RN.em ((i:Int) < (S.rn:Int)) 138 (λ h26=>?_) λ h26=>?_
          ·refine RN.go 10 [.own 0] λ _=>?_
           obtain ⟨qx27,ox27,Nx27,fx27,fzx27,hAx27,hqx27,hox27,hgx27⟩:=hM.rooms.at (k:=i) (by omega)
           refine RN.sv 142 (congrArg (λ v_=>(.slice v_ S.rn S.rc:Value)) hAx27)<|RN.ro (λ _=>(mc hS.blk (mc hqx27 mn)))<|RN.goP 2 [.ix i,.rorow 1 (ox27+i) 0,.rorow 1 (ox27+i) 1,.rorow 1 (ox27+i) 2,.rorow 1 (ox27+i) 3] [((ox27 * 4+i * 4)+3)=(ox27+i) * 4+3 /\ (ox27+i) < Nx27,((ox27 * 4+i * 4)+2)=(ox27+i) * 4+2 /\ (ox27+i) < Nx27,((ox27 * 4+i * 4)+1)=(ox27+i) * 4+1 /\ (ox27+i) < Nx27,(ox27 * 4+i * 4)=(ox27+i) * 4+0 /\ (ox27+i) < Nx27,(i:Int)=((i:Nat):Int) /\ i < S.rn] λ _=>RN.sv 145 (congrArg (λ v_=>(.agg #[vI v_.x0,vI v_.y0,vI v_.x1,vI v_.y1]:Value)) hgx27)<|RN.cp (rproper_any (rs.getD i bxE.dflt)  _)<|RN.go 9 [] λ _=>RN.en (properP (rs.getD i bxE.dflt)) 148 (λ h28=>?_) λ h28=>?_
           ·refine RN.goP 9 [.nw] [I64 ((i:Int)+1)] λ _=>?_
            refine mt25 (i+1) [0] [] ?_
            try dsimp only
            refine ⟨⟨by omega,λ t ht=>?_⟩,by omega⟩
            rcases Nat.lt_or_ge t i with h_ | h_
            ·exact hrm t h_
            ·obtain rfl:t=i:=by omega
             exact h28
           ·refine RN.go 6 [] λ _=>RN.ret [] [] [] (v:=vI 11) (H':=[]) ?_
            exact ⟨congrArg vI (valE_11 (show ∀ k,k < S.nb -> shOk (S.body k).sh from λ t ht=>hsh t (by omega)) λ h_=>h28 (h_.1.2.2.2.1 i (by omega))),rfl⟩
          ·refine RN.go 13 [] λ _=>RN.loop (σ:=Nat) (λ d=>⟨[(1,vP (n1+0) 0),(11,vI (d:Int))],[((n1+0),.lit (Setup.l S) 33 (0,0))],[],d <= S.dn /\ ∀ t,t < d -> vdoorP S.rn (ds.getD t drE.dflt),S.dn - d⟩) 0 [0] [] (⟨Nat.zero_le _,λ t ht=>absurd ht (Nat.not_lt_zero _)⟩) ?_
           rintro d ⟨hdl,hdr⟩ mt30
           refine RN.go 10 [.own 0] λ _=>RN.em ((d:Int) < (S.dn:Int)) 153 (λ h31=>?_) λ h31=>?_
           ·refine RN.go 10 [.own 0] λ _=>?_
            obtain ⟨qx32,ox32,Nx32,fx32,fzx32,hAx32,hqx32,hox32,hgx32⟩:=hM.doors.at (k:=d) (by omega)
            refine RN.sv 157 (congrArg (λ v_=>(.slice v_ S.dn S.dc:Value)) hAx32)<|RN.ro (λ _=>(mc hS.blk (mc hqx32 mn)))<|RN.goP 2 [.ix d,.rorow 1 (ox32+d) 0,.rorow 1 (ox32+d) 1] [((ox32 * 2+d * 2)+1)=(ox32+d) * 2+1 /\ (ox32+d) < Nx32,(ox32 * 2+d * 2)=(ox32+d) * 2+0 /\ (ox32+d) < Nx32,(d:Int)=((d:Nat):Int) /\ d < S.dn] λ _=>RN.sv 160 (congrArg (λ v_=>(.agg #[vI v_.a,vI v_.b]:Value)) hgx32)<|RN.go 12 [.own 0,.own 0,.own 0,.own 0] λ n33=>RN.em ((ds.getD d drE.dflt).a=(ds.getD d drE.dflt).b) 166 (λ h34=>?_) λ h34=>?_
            ·refine RN.go 33 [] λ _=>RN.ret [] [] [] (v:=vI 11) (H':=[]) ?_
             exact ⟨congrArg vI (valE_11 (show ∀ k,k < S.nb -> shOk (S.body k).sh from λ t ht=>hsh t (by omega)) λ h_=>by have h2_:=vdoorP_iff.1 (h_.1.2.2.2.2 d (by omega));omega),rfl⟩
            ·refine RN.go 5 [.own 0] λ _=>RN.em ((ds.getD d drE.dflt).a < 0) 171 (λ h35=>?_) λ h35=>?_
             ·refine RN.go 28 [] λ _=>RN.ret [] [] [] (v:=vI 11) (H':=[]) ?_
              exact ⟨congrArg vI (valE_11 (show ∀ k,k < S.nb -> shOk (S.body k).sh from λ t ht=>hsh t (by omega)) λ h_=>by have h2_:=vdoorP_iff.1 (h_.1.2.2.2.2 d (by omega));omega),rfl⟩
             ·refine RN.go 5 [.own 0] λ _=>RN.em ((ds.getD d drE.dflt).b < 0) 176 (λ h36=>?_) λ h36=>?_
              ·refine RN.go 23 [] λ _=>RN.ret [] [] [] (v:=vI 11) (H':=[]) ?_
               exact ⟨congrArg vI (valE_11 (show ∀ k,k < S.nb -> shOk (S.body k).sh from λ t ht=>hsh t (by omega)) λ h_=>by have h2_:=vdoorP_iff.1 (h_.1.2.2.2.2 d (by omega));omega),rfl⟩
              ·refine RN.go 8 [.own 0,.own 1] λ _=>RN.em ((ds.getD d drE.dflt).a >= (S.rn:Int)) 184 (λ h37=>?_) λ h37=>?_
               ·refine RN.go 15 [] λ _=>RN.ret [] [] [] (v:=vI 11) (H':=[]) ?_
                exact ⟨congrArg vI (valE_11 (show ∀ k,k < S.nb -> shOk (S.body k).sh from λ t ht=>hsh t (by omega)) λ h_=>by have h2_:=vdoorP_iff.1 (h_.1.2.2.2.2 d (by omega));omega),rfl⟩
               ·refine RN.go 9 [.own 0,.own 1] λ _=>RN.em ((ds.getD d drE.dflt).b >= (S.rn:Int)) 191 (λ h38=>?_) λ h38=>?_
                ·refine RN.go 6 [] λ _=>RN.ret [] [] [] (v:=vI 11) (H':=[]) ?_
                 exact ⟨congrArg vI (valE_11 (show ∀ k,k < S.nb -> shOk (S.body k).sh from λ t ht=>hsh t (by omega)) λ h_=>by have h2_:=vdoorP_iff.1 (h_.1.2.2.2.2 d (by omega));omega),rfl⟩
                ·refine RN.goP 9 [.nw] [I64 ((d:Int)+1)] λ _=>?_
                 refine mt30 (d+1) [1] [] ?_
                 try dsimp only
                 refine ⟨⟨by omega,λ t ht=>?_⟩,by omega⟩
                 rcases Nat.lt_or_ge t d with h_ | h_
                 ·exact hdr t h_
                 ·obtain rfl:t=d:=by omega
                  exact vdoorP_iff.2 (by omega)
           ·refine RN.go 11 [.own 0] λ _=>RN.cp (rin_any S.fog 0 4194304  _)<|RN.go 2 [] λ _=>RN.en (rinP S.fog 0 4194304) 196 (λ h39=>?_) λ h39=>?_
            ·refine RN.go 3 [.own 0] λ _=>RN.cp (rin_any S.g.x (-16384) 16384  _)<|RN.go 3 [] λ _=>RN.en (rinP S.g.x (-16384) 16384) 203 (λ h40=>?_) λ h40=>?_
             ·refine RN.go 3 [.own 0] λ _=>RN.cp (rin_any S.g.y (-16384) 16384  _)<|RN.go 3 [] λ _=>RN.en (rinP S.g.y (-16384) 16384) 210 (λ h41=>?_) λ h41=>?_
              ·refine RN.go 2 [.own 0] λ _=>RN.cp (rin_any S.push 0 16384  _)<|RN.go 4 [] λ _=>RN.en (rinP S.push 0 16384) 215 (λ h42=>?_) λ h42=>?_
               ·refine RN.go 8 [.own 0] λ _=>RN.cp (rin_any S.drag 0 1024  _)<|RN.go 2 [] λ _=>RN.en (rinP S.drag 0 1024) 220 (λ h43=>?_) λ h43=>?_
                ·refine RN.go 2 [.own 0] λ _=>RN.cp (rin_any S.rest 0 1024  _)<|RN.go 3 [] λ _=>RN.en (rinP S.rest 0 1024) 226 (λ h44=>?_) λ h44=>?_
                 ·refine RN.go 2 [.own 0] λ _=>RN.cp (rin_any S.rounds 1 4  _)<|RN.go 3 [] λ _=>RN.en (rinP S.rounds 1 4) 232 (λ h45=>?_) λ h45=>?_
                  ·refine RN.go 2 [.own 0] λ _=>RN.cp (rin_any S.fuel 0 1000  _)<|RN.go 4 [] λ _=>RN.en (rinP S.fuel 0 1000) 237 (λ h46=>?_) λ h46=>?_
                   ·refine RN.go 8 [] λ _=>RN.ret [] [] [] (v:=vI 0) (H':=[]) ?_
                    exact ⟨congrArg vI (valE_0 (show ∀ k,k < S.nb -> shOk (S.body k).sh from λ t ht=>hsh t (by omega)) ⟨vnumP_iff.2 (by unfold rinP at *;omega),h12,⟨by omega,λ t ht=>hrm t (by omega),λ t ht=>hdr t (by omega)⟩⟩ (λ t ht=>hvb t (by omega))),rfl⟩
                   ·refine RN.go 6 [] λ _=>RN.ret [] [] [] (v:=vI 11) (H':=[]) ?_
                    exact ⟨congrArg vI (valE_11 (show ∀ k,k < S.nb -> shOk (S.body k).sh from λ t ht=>hsh t (by omega)) λ h_=>by have h2_:=vnumP_iff.1 h_.1.1;have h3_:=h_.1.2.2.1;unfold rinP at *;omega),rfl⟩
                  ·refine RN.go 13 [] λ _=>RN.ret [] [] [] (v:=vI 11) (H':=[]) ?_
                   exact ⟨congrArg vI (valE_11 (show ∀ k,k < S.nb -> shOk (S.body k).sh from λ t ht=>hsh t (by omega)) λ h_=>by have h2_:=vnumP_iff.1 h_.1.1;have h3_:=h_.1.2.2.1;unfold rinP at *;omega),rfl⟩
                 ·refine RN.go 19 [] λ _=>RN.ret [] [] [] (v:=vI 11) (H':=[]) ?_
                  exact ⟨congrArg vI (valE_11 (show ∀ k,k < S.nb -> shOk (S.body k).sh from λ t ht=>hsh t (by omega)) λ h_=>by have h2_:=vnumP_iff.1 h_.1.1;have h3_:=h_.1.2.2.1;unfold rinP at *;omega),rfl⟩
                ·refine RN.go 25 [] λ _=>RN.ret [] [] [] (v:=vI 11) (H':=[]) ?_
                 exact ⟨congrArg vI (valE_11 (show ∀ k,k < S.nb -> shOk (S.body k).sh from λ t ht=>hsh t (by omega)) λ h_=>by have h2_:=vnumP_iff.1 h_.1.1;have h3_:=h_.1.2.2.1;unfold rinP at *;omega),rfl⟩
               ·refine RN.go 6 [] λ _=>RN.ret [] [] [] (v:=vI 11) (H':=[]) ?_
                exact ⟨congrArg vI (valE_11 (show ∀ k,k < S.nb -> shOk (S.body k).sh from λ t ht=>hsh t (by omega)) λ h_=>by have h2_:=vnumP_iff.1 h_.1.1;have h3_:=h_.1.2.2.1;unfold rinP at *;omega),rfl⟩
              ·refine RN.go 13 [] λ _=>RN.ret [] [] [] (v:=vI 11) (H':=[]) ?_
               exact ⟨congrArg vI (valE_11 (show ∀ k,k < S.nb -> shOk (S.body k).sh from λ t ht=>hsh t (by omega)) λ h_=>by have h2_:=vnumP_iff.1 h_.1.1;have h3_:=h_.1.2.2.1;unfold rinP at *;omega),rfl⟩
             ·refine RN.go 20 [] λ _=>RN.ret [] [] [] (v:=vI 11) (H':=[]) ?_
              exact ⟨congrArg vI (valE_11 (show ∀ k,k < S.nb -> shOk (S.body k).sh from λ t ht=>hsh t (by omega)) λ h_=>by have h2_:=vnumP_iff.1 h_.1.1;have h3_:=h_.1.2.2.1;unfold rinP at *;omega),rfl⟩
            ·refine RN.go 27 [] λ _=>RN.ret [] [] [] (v:=vI 11) (H':=[]) ?_
             exact ⟨congrArg vI (valE_11 (show ∀ k,k < S.nb -> shOk (S.body k).sh from λ t ht=>hsh t (by omega)) λ h_=>by have h2_:=vnumP_iff.1 h_.1.1;have h3_:=h_.1.2.2.1;unfold rinP at *;omega),rfl⟩
        ·refine RN.go 6 [] λ _=>RN.ret [] [] [] (v:=vI 11) (H':=[]) ?_
         exact ⟨congrArg vI (valE_11 (show ∀ k,k < S.nb -> shOk (S.body k).sh from λ t ht=>hsh t (by omega)) λ h_=>h12 h_.1.2.1),rfl⟩
end Go.Proofs.YtgibcbhfmomfbaaGreatDoor
