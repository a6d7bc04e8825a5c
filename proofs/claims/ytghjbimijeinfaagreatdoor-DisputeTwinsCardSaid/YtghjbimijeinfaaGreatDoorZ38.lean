import Derived.Test.YtghjbimijeinfaaGreatDoorZ37
import Derived.Test.YtghjbimijeinfaaGreatDoorZ32
import Derived.Test.YtghjbimijeinfaaGreatDoorProg
import Derived.RecoverIn
import Derived.Test.YtghjbimijeinfaaGreatDoorZ36
import Derived.Test.YtghjbimijeinfaaGreatDoorZ31
set_option maxHeartbeats 4000000
set_option maxRecDepth 100000
set_option linter.unusedSimpArgs false
set_option linter.unusedVariables false
namespace Go.Proofs.YtghjbimijeinfaaGreatDoor
open Go.RowKit
theorem IM (S:Setup) (rs_:List Bx) (ds_:List Dr) (bp n cap jj:Nat) (A:Option Addr) (rs:List Rw) (xss:List (List Inp)) (F:HL) (hS:SetIn F S) (hM:MapIn F S rs_ ds_) (hV:SetV S) (hrn:S.rn <= 1000000) (hdn:S.dn <= 1000000) (hsz:(sizeOf S).toNat <= 1000000) (hv:iu S rs_ ds_=0) (hj:jj < 5) (hA:∀ t,0 <= t -> AtOk F bp t (jj,0)) (hE:cN F) (hr:RowL jJ 56 F A n rs) (hw:RwsIn F rs xss) (hrow:∀ i,i < n -> gL S.players (xss.getD i [])) (h9:n <= 9):Sp Tryz.prog 25 #[(Setup.v S),vP bp 0,.slice A n cap] [] F (λ u H'=>∃ x:Nat × Setup × HL,H'=ap [] [x.2.2] /\ (u=.tuple #[.iface 164 (vP x.1 0),vI 0] /\ SetEq S x.2.1 /\ ExeH rs_ ds_ bp x.1 S x.2.1 (-1) 0 0 0 (XW S (λ _=>(jj,0)) xss (-1) 0 0 0) (XN S (λ _=>(jj,0)) xss (-1) 0 0 0) n xss x.2.2)):=by
 refine Sp.run Tryz.func25 rfl mn (A:=[]) (Ts:=[]) rfl λ w0=>?_
 refine ae 13 (ow 0 16) λ n1=>RN.ct (Hp:=[]) (Tp:=[]) [] [] (FW (cap:=cap) hS.up hM.up hV hrn hdn hsz hv (j:=(jj,0)) hj (λ t ht=>(hA t ht).mono λ x hx=>aw hx) (aw hE) hr.up (hw.mono λ x hx=>aw hx) h9 hrow (mv S)) ?_
 rintro _ ⟨⟨q2,A3,c4⟩,E5⟩ ⟨hs6,rfl⟩
 refine ae 24 (ow 1 16) λ _=>RN.ct (Hp:=[]) (Tp:=[]) [] [] (qP S rs_ ds_ bp n cap (λ _=>(jj,0)) A rs xss (-1) 0 0 0 (XW S (λ _=>(jj,0)) xss (-1) 0 0 0) (XN S (λ _=>(jj,0)) xss (-1) 0 0 0) _ hS.up.cl hM.up (by have h_:=hV.nb;omega) hrn hdn hsz (aw hE) hr.up (hw.mono λ x hx=>aw hx) (λ k hk=>by have h_:=(hrow k hk).1;have h2_:=hV.pl;omega) (by omega) rfl (λ i hi=>⟨hj,(hA _ (by omega)).mono λ x hx=>aw hx⟩) (λ S3 h3 t ht=>F8 (J:=(λ _=>(jj,0))) (ct:=(-1)) (tr:=0) (ix:=0) hV (show n <= 900 by omega) hrow 0 (.inl (by decide)) h3 ht)) ?_
 rintro _ ⟨x7,S8,G9⟩ ⟨rfl,he10,hX11⟩
 dsimp only at he10 hX11
 refine ae 5 [] λ _=>RN.ret [] [] [0] (v:=.tuple #[.iface 164 (vP x7 0),vI 0]) (H':=(ap [] [G9])) ?_
 exact ⟨(x7,S8,G9),rfl,rfl,he10,hX11⟩
theorem ud (S:Setup) (rs_:List Bx) (ds_:List Dr) (bp n cap jj:Nat) (A:Option Addr) (rs:List Rw) (xss:List (List Inp)) (F:HL) (hS:SetIn F S) (hM:MapIn F S rs_ ds_) (hV:SetV S) (hrn:S.rn <= 1000000) (hdn:S.dn <= 1000000) (hsz:(sizeOf S).toNat <= 1000000) (hv:iu S rs_ ds_=0) (hj:jj < 5) (hA:∀ t,0 <= t -> AtOk F bp t (jj,0)) (hE:cN F) (hr:RowL jJ 56 F A n rs) (hw:RwsIn F rs xss) (hrow:∀ i,i < n -> gL S.players (xss.getD i [])) (h9:n <= 9):Sp Tryz.prog 25 #[Setup.v S,vP bp 0,.slice A n cap] (ap [] []) F (λ u H'=>∃ x:Nat × Setup × HL,H'=ap [] [x.2.2] /\ (u=.tuple #[.iface 164 (vP x.1 0),vI 0] /\ SetEq S x.2.1 /\ ExeH rs_ ds_ bp x.1 S x.2.1 (-1) 0 0 0 (XW S (λ _=>(jj,0)) xss (-1) 0 0 0) (XN S (λ _=>(jj,0)) xss (-1) 0 0 0) n xss x.2.2)):=IM S rs_ ds_ bp n cap jj A rs xss F hS hM hV hrn hdn hsz hv hj hA hE hr hw hrow h9
def wP (S:Setup) (n:Nat) (ct tr ix vv:Int):Prop:=(0 <= ct /\ ct < (n:Int)) /\ 0 <= tr /\ ((32 <= ix /\ ix < 48) \/ (af S 0 <= ix /\ ix < sizeOf S)) /\ (-16384 <= vv /\ vv <= 16384)
theorem ue {S:Setup} (hV:SetV S) {n:Nat} {ct tr ix vv:Int} (h:wP S n ct tr ix vv):ub S ix:=by
 rcases h.2.2.1 with h1 | h1
 ·exact .inl h1
 ·right
  have h2:=hV.pl
  have h3:=hV.nb
  rcases ly (S:=S) (by omega) 0 with e | ⟨_,_,e⟩
  ·unfold af at e
   rw [if_neg (by omega),if_neg (by omega)] at e
   omega
  ·omega
theorem IO (S:Setup) (rs_:List Bx) (ds_:List Dr) (bp n cap jj:Nat) (A:Option Addr) (rs:List Rw) (xss:List (List Inp)) (ct tr ix vv:Int) (F:HL) (hS:SetIn F S) (hM:MapIn F S rs_ ds_) (hV:SetV S) (hrn:S.rn <= 1000000) (hdn:S.dn <= 1000000) (hsz:(sizeOf S).toNat <= 1000000) (hv:iu S rs_ ds_=0) (hj:jj < 5) (hA:∀ t,0 <= t -> AtOk F bp t (jj,0)) (hE:cN F) (hr:RowL jJ 56 F A n rs) (hw:RwsIn F rs xss) (hrow:∀ i,i < n -> gL S.players (xss.getD i [])) (h9:n <= 9):Sp Tryz.prog 31 #[(Setup.v S),vP bp 0,.slice A n cap,vI ct,vI tr,.agg #[vI ix,vI vv]] [] F (λ u H'=>∃ x:Nat × Setup × HL,H'=ap [] [x.2.2] /\ ((wP S n ct tr ix vv /\ u=.tuple #[.iface 164 (vP x.1 0),vI 0] /\ SetEq S x.2.1 /\ ExeH rs_ ds_ bp x.1 S x.2.1 ct tr ix vv (XW S (λ _=>(jj,0)) xss ct tr ix vv) (XN S (λ _=>(jj,0)) xss ct tr ix vv) n xss x.2.2) \/ (¬ wP S n ct tr ix vv /\ u=.tuple #[.nilIface,vI 1]))):=by
 have hpl_:=hV.pl
 have hnb_:=hV.nb
 refine Sp.run Tryz.func31 rfl mn (A:=[]) (Ts:=[]) rfl λ w0=>?_
 refine ae 14 (ow 1 16) λ n1=>RN.ct (Hp:=[]) (Tp:=[]) [] [] (FW (cap:=cap) hS.up hM.up hV hrn hdn hsz hv (j:=(jj,0)) hj (λ t ht=>(hA t ht).mono λ x hx=>aw hx) (aw hE) hr.up (hw.mono λ x hx=>aw hx) h9 hrow (mv S)) ?_
 rintro _ ⟨⟨q2,A3,c4⟩,E5⟩ ⟨hs6,rfl⟩
 refine ae 19 [] λ _=>uc (σ:=Bool) (λ e1_=>⟨[(1,vP bp 0),(2,.slice A n cap),(3,vI ct),(4,vI tr),(6,vP (n1+0) 0),(11,vP (n1+1) 0),(17,.bool e1_)],[(q2,.rows 1 ((ja (rG S.std (λ _=>(jj,0)) xss) ⟨aX S S.nb,[],0⟩ n).cs.length) (aK (ja (rG S.std (λ _=>(jj,0)) xss) ⟨aX S S.nb,[],0⟩ n).cs) 3 (0,0)),((n1+1),.lit [vI ix,vI vv] 87 (0,0)),((n1+0),.lit (Setup.l S) 31 (0,0))],[E5],e1_=(decide (32 <= ix /\ ix < 48)),0⟩) ?_ ?_
 ·intro mt7
  refine ae 5 [.own 1] λ _=>RN.em (ix >= 32) 34 (λ h8=>?_) λ h8=>?_
  ·refine ae 6 [.own 1] λ _=>?_
   refine mt7 ((decide (ix < 48))) [0,1,2] [0] ?_
   try dsimp only
   first | (exact (decide_eq_decide.2 ⟨λ h_=>⟨by omega,by omega⟩,λ h_=>by omega⟩)) | skip
  ·refine ae 6 [] λ _=>?_
   refine mt7 false [0,1,2] [0] ?_
   try dsimp only
   exact (decide_eq_false (p:=(32 <= ix /\ ix < 48)) (λ h_=>by omega)).symm
 ·rintro e1_ he1_
  refine ae 2 [] λ _=>uc (σ:=Bool) (λ e2_=>⟨[(1,vP bp 0),(2,.slice A n cap),(3,vI ct),(4,vI tr),(6,vP (n1+0) 0),(11,vP (n1+1) 0),(17,.bool e1_),(18,.bool e2_)],[(q2,.rows 1 ((ja (rG S.std (λ _=>(jj,0)) xss) ⟨aX S S.nb,[],0⟩ n).cs.length) (aK (ja (rG S.std (λ _=>(jj,0)) xss) ⟨aX S S.nb,[],0⟩ n).cs) 3 (0,0)),((n1+1),.lit [vI ix,vI vv] 87 (0,0)),((n1+0),.lit (Setup.l S) 31 (0,0))],[E5],e2_=(decide (af S 0 <= ix /\ ix < sizeOf S)),0⟩) ?_ ?_
  ·intro mt9
   refine RN.draw [] []<|ag [] [0,2,1] (ow 2 16++[.own 1])<|ar [] 3 (λ X_=>(cu S 0 _ hS.toSetN)) ?_
   have hb10:=cr hS.toSetN 0
   refine ag [] [4,5] []<|RD.em (ix >= af S 0) 44 (λ h11=>?_) λ h11=>?_
   ·refine ag [] [6,8,7] (ow 2 16++[.own 1])<|ar [] 9 (λ X_=>(rP S _ hS.toSetN))<|ag [] [10,11,12] []<|RD.fin ?_
    refine mt9 ((decide (ix < sizeOf S))) [0,1,2] [0] ?_
    try dsimp only
    first | (exact (decide_eq_decide.2 ⟨λ h_=>⟨by omega,by omega⟩,λ h_=>by omega⟩)) | skip
   ·refine ag [] [6,8,7,9,10,11,12] []<|RD.fin ?_
    refine mt9 false [0,1,2] [0] ?_
    try dsimp only
    exact (decide_eq_false (p:=(af S 0 <= ix /\ ix < sizeOf S)) (λ h_=>by omega)).symm
  ·rintro e2_ he2_
   refine ae 2 [] λ _=>uc (σ:=Bool) (λ e3_=>⟨[(1,vP bp 0),(2,.slice A n cap),(3,vI ct),(4,vI tr),(6,vP (n1+0) 0),(11,vP (n1+1) 0),(17,.bool e1_),(18,.bool e2_),(19,.bool e3_)],[(q2,.rows 1 ((ja (rG S.std (λ _=>(jj,0)) xss) ⟨aX S S.nb,[],0⟩ n).cs.length) (aK (ja (rG S.std (λ _=>(jj,0)) xss) ⟨aX S S.nb,[],0⟩ n).cs) 3 (0,0)),((n1+1),.lit [vI ix,vI vv] 87 (0,0)),((n1+0),.lit (Setup.l S) 31 (0,0))],[E5],e3_=(decide (-16384 <= vv /\ vv <= 16384)),0⟩) ?_ ?_
   ·intro mt12
    refine ae 5 [.own 1] λ _=>RN.em (vv >= (-16384)) 54 (λ h13=>?_) λ h13=>?_
    ·refine ae 6 [.own 1] λ _=>?_
     refine mt12 ((decide (vv <= 16384))) [0,1,2] [0] ?_
     try dsimp only
     first | (exact (decide_eq_decide.2 ⟨λ h_=>⟨by omega,by omega⟩,λ h_=>by omega⟩)) | skip
    ·refine ae 6 [] λ _=>?_
     refine mt12 false [0,1,2] [0] ?_
     try dsimp only
     exact (decide_eq_false (p:=(-16384 <= vv /\ vv <= 16384)) (λ h_=>by omega)).symm
   ·rintro e3_ he3_
    refine ae 7 [] λ _=>RN.em (ct < 0) 61 (λ h14=>?_) λ h14=>?_
    ·refine ae 30 [] λ _=>RN.ret [] [] [] (v:=.tuple #[.nilIface,vI 1]) (H':=(ap [] [])) ?_
     refine ⟨(0,S,[]),by simp [ap],.inr ⟨λ h_=>?_,rfl⟩⟩
     obtain ⟨h1_,h2_,h3_,h4_⟩:=h_
     omega
    ·refine ae 6 [] λ _=>RN.em (ct >= (n:Int)) 67 (λ h15=>?_) λ h15=>?_
     ·refine ae 24 [] λ _=>RN.ret [] [] [] (v:=.tuple #[.nilIface,vI 1]) (H':=(ap [] [])) ?_
      refine ⟨(0,S,[]),by simp [ap],.inr ⟨λ h_=>?_,rfl⟩⟩
      obtain ⟨h1_,h2_,h3_,h4_⟩:=h_
      omega
     ·refine ae 4 [] λ _=>RN.em (tr < 0) 71 (λ h16=>?_) λ h16=>?_
      ·refine ae 20 [] λ _=>RN.ret [] [] [] (v:=.tuple #[.nilIface,vI 1]) (H':=(ap [] [])) ?_
       refine ⟨(0,S,[]),by simp [ap],.inr ⟨λ h_=>?_,rfl⟩⟩
       obtain ⟨h1_,h2_,h3_,h4_⟩:=h_
       omega
      ·refine ae 3 [] λ _=>mG (e1_) 74 (λ h17=>?_) λ h17=>?_
       ·refine ae 10 [] λ _=>mG (e3_) 82 (λ h18=>?_) λ h18=>?_
        ·refine ae 4 [] λ _=>?_
         have fe1_:(32 <= ix /\ ix < 48):=by rw [he1_] at h17;simpa using h17
         have fe3_:(-16384 <= vv /\ vv <= 16384):=by rw [he3_] at h18;simpa using h18
         have hfit_:wP S n ct tr ix vv:=⟨⟨by omega,by omega⟩,by omega,by omega,by omega⟩
         have hch_:=ue hV hfit_
         refine ae 8 (ow 2 16++[.own 1,.own 1]) λ _=>RN.ct (Hp:=[]) (Tp:=[]) [] [] (qP S rs_ ds_ bp n cap (λ _=>(jj,0)) A rs xss ct tr ix vv (XW S (λ _=>(jj,0)) xss ct tr ix vv) (XN S (λ _=>(jj,0)) xss ct tr ix vv) _ hS.up.cl hM.up (by have h_:=hV.nb;omega) hrn hdn hsz (aw hE) hr.up (hw.mono λ x hx=>aw hx) (λ k hk=>by have h_:=(hrow k hk).1;have h2_:=hV.pl;omega) (by omega) rfl (λ i hi=>⟨hj,(hA _ (by omega)).mono λ x hx=>aw hx⟩) (λ S3 h3 t ht=>F8 (J:=(λ _=>(jj,0))) (ct:=ct) (tr:=tr) (ix:=ix) hV (show n <= 900 by omega) hrow vv (.inr hch_) h3 ht)) ?_
         rintro _ ⟨x19,S20,G21⟩ ⟨rfl,he22,hX23⟩
         dsimp only at he22 hX23
         refine ae 5 [] λ _=>RN.ret [] [] [0] (v:=.tuple #[.iface 164 (vP x19 0),vI 0]) (H':=(ap [] [G21])) ?_
         exact ⟨(x19,S20,G21),rfl,.inl ⟨hfit_,rfl,he22,hX23⟩⟩
        ·refine ae 7 [] λ _=>RN.ret [] [] [] (v:=.tuple #[.nilIface,vI 1]) (H':=(ap [] [])) ?_
         refine ⟨(0,S,[]),by simp [ap],.inr ⟨λ h_=>?_,rfl⟩⟩
         obtain ⟨h1_,h2_,h3_,h4_⟩:=h_
         have fe1_:(32 <= ix /\ ix < 48):=by rw [he1_] at h17;simpa using h17
         have fe3_:¬ (-16384 <= vv /\ vv <= 16384):=by rw [he3_] at h18;simpa using h18
         omega
       ·refine ae 5 [] λ _=>mG (e2_) 79 (λ h24=>?_) λ h24=>?_
        ·refine ae 5 [] λ _=>mG (e3_) 82 (λ h25=>?_) λ h25=>?_
         ·refine ae 4 [] λ _=>?_
          have fe1_:¬ (32 <= ix /\ ix < 48):=by rw [he1_] at h17;simpa using h17
          have fe2_:(af S 0 <= ix /\ ix < sizeOf S):=by rw [he2_] at h24;simpa using h24
          have fe3_:(-16384 <= vv /\ vv <= 16384):=by rw [he3_] at h25;simpa using h25
          have hfit_:wP S n ct tr ix vv:=⟨⟨by omega,by omega⟩,by omega,by omega,by omega⟩
          have hch_:=ue hV hfit_
          refine ae 8 (ow 2 16++[.own 1,.own 1]) λ _=>RN.ct (Hp:=[]) (Tp:=[]) [] [] (qP S rs_ ds_ bp n cap (λ _=>(jj,0)) A rs xss ct tr ix vv (XW S (λ _=>(jj,0)) xss ct tr ix vv) (XN S (λ _=>(jj,0)) xss ct tr ix vv) _ hS.up.cl hM.up (by have h_:=hV.nb;omega) hrn hdn hsz (aw hE) hr.up (hw.mono λ x hx=>aw hx) (λ k hk=>by have h_:=(hrow k hk).1;have h2_:=hV.pl;omega) (by omega) rfl (λ i hi=>⟨hj,(hA _ (by omega)).mono λ x hx=>aw hx⟩) (λ S3 h3 t ht=>F8 (J:=(λ _=>(jj,0))) (ct:=ct) (tr:=tr) (ix:=ix) hV (show n <= 900 by omega) hrow vv (.inr hch_) h3 ht)) ?_
          rintro _ ⟨x26,S27,G28⟩ ⟨rfl,he29,hX30⟩
          dsimp only at he29 hX30
          refine ae 5 [] λ _=>RN.ret [] [] [0] (v:=.tuple #[.iface 164 (vP x26 0),vI 0]) (H':=(ap [] [G28])) ?_
          exact ⟨(x26,S27,G28),rfl,.inl ⟨hfit_,rfl,he29,hX30⟩⟩
         ·refine ae 7 [] λ _=>RN.ret [] [] [] (v:=.tuple #[.nilIface,vI 1]) (H':=(ap [] [])) ?_
          refine ⟨(0,S,[]),by simp [ap],.inr ⟨λ h_=>?_,rfl⟩⟩
          obtain ⟨h1_,h2_,h3_,h4_⟩:=h_
          have fe1_:¬ (32 <= ix /\ ix < 48):=by rw [he1_] at h17;simpa using h17
          have fe2_:(af S 0 <= ix /\ ix < sizeOf S):=by rw [he2_] at h24;simpa using h24
          have fe3_:¬ (-16384 <= vv /\ vv <= 16384):=by rw [he3_] at h25;simpa using h25
          omega
        ·refine ae 12 [] λ _=>RN.ret [] [] [] (v:=.tuple #[.nilIface,vI 1]) (H':=(ap [] [])) ?_
         refine ⟨(0,S,[]),by simp [ap],.inr ⟨λ h_=>?_,rfl⟩⟩
         obtain ⟨h1_,h2_,h3_,h4_⟩:=h_
         have fe1_:¬ (32 <= ix /\ ix < 48):=by rw [he1_] at h17;simpa using h17
         have fe2_:¬ (af S 0 <= ix /\ ix < sizeOf S):=by rw [he2_] at h24;simpa using h24
         omega
theorem IP (S:Setup) (rs_:List Bx) (ds_:List Dr) (bp n cap jj:Nat) (A:Option Addr) (rs:List Rw) (xss:List (List Inp)) (ct tr ix vv:Int) (F:HL) (hS:SetIn F S) (hM:MapIn F S rs_ ds_) (hV:SetV S) (hrn:S.rn <= 1000000) (hdn:S.dn <= 1000000) (hsz:(sizeOf S).toNat <= 1000000) (hv:iu S rs_ ds_=0) (hj:jj < 5) (hA:∀ t,0 <= t -> AtOk F bp t (jj,0)) (hE:cN F) (hr:RowL jJ 56 F A n rs) (hw:RwsIn F rs xss) (hrow:∀ i,i < n -> gL S.players (xss.getD i [])) (h9:n <= 9):Sp Tryz.prog 31 #[Setup.v S,vP bp 0,.slice A n cap,vI ct,vI tr,.agg #[vI ix,vI vv]] (ap [] []) F (λ u H'=>∃ x:Nat × Setup × HL,H'=ap [] [x.2.2] /\ ((wP S n ct tr ix vv /\ u=.tuple #[.iface 164 (vP x.1 0),vI 0] /\ SetEq S x.2.1 /\ ExeH rs_ ds_ bp x.1 S x.2.1 ct tr ix vv (XW S (λ _=>(jj,0)) xss ct tr ix vv) (XN S (λ _=>(jj,0)) xss ct tr ix vv) n xss x.2.2) \/ (¬ wP S n ct tr ix vv /\ u=.tuple #[.nilIface,vI 1]))):=IO S rs_ ds_ bp n cap jj A rs xss ct tr ix vv F hS hM hV hrn hdn hsz hv hj hA hE hr hw hrow h9
open Go.Shelf
theorem yO (c0:Value) (F:HL):SpD Tryz.prog 76 #[c0] [] F (λ _ H'=>H'=[]):=by
 intro w hR
 refine callsDIn_of_wpSIn (F:=Wr none) (n:=0) Tryz.func76 rfl trivial λ c₀ cs hu=>?_
 have hrc:recoverD (c₀ :: cs)=none:=by simp [recoverD,hu]
 refine wpSIn_seq (wpSIn_region ?_)
 show wpOpsSIn _ _ _ _ _ [0,1] _ _ _
 simp only [wpOpsSIn,List.getElem?_toArray,List.getElem?_cons_zero,List.getElem?_cons_succ]
 simp [wpOpsSIn,go_sem,hrc,Tryz.ntmps76,Exit.thenS]
 refine wpSIn_cond (t:=false) (by simp [Act.eval,Array.replicate]) ?_
 refine wpSIn_of_wpIn rfl ?_
 refine wpIn_skip ?_
 simp [bodyPostS,results,Tryz.results76,hu]
 exact ⟨.returning,by cases c₀;simp at hu;subst hu;rfl,hu ▸ rfl,hR,Below.refl _ _⟩
theorem Cx (S:Setup) (bp fp n cap p0 p1:Nat) (A:Option Addr) (r:Int) (F:HL) (hR0:RootOk F p0 n r) (hR1:RootOk F p1 n r):Sp Tryz.prog 118 #[vP fp 0,vI (n:Int)] [(fp,.lit (Setup.l S++[vP bp 0,.slice A n cap,.iface 164 (vP p0 0),.iface 164 (vP p1 0),vI 0,vI 0,vI 0,vI 0]) 184 (0,0))] F (λ u H'=>∃ _:Unit,H'=ap [(fp,.lit (Setup.l S++[vP bp 0,.slice A n cap,.iface 164 (vP p0 0),.iface 164 (vP p1 0),vI 0,vI 0,vI 0,vI 2]) 184 (0,0))] [] /\ u=.agg #[.int .u64 r,.int .u64 r]):=by
 refine Sp.run Tryz.func118 rfl mn (A:=[(fp,.lit (Setup.l S++[vP bp 0,.slice A n cap,.iface 164 (vP p0 0),.iface 164 (vP p1 0),vI 0,vI 0,vI 0,vI 0]) 184 (0,0))]) (Ts:=[]) rfl λ w0=>?_
 refine ae 21 [.own 2,.own 2] λ n1=>RN.rounds 3<|al 37 [.own 2,.nw,.own 2] [bq (0+1)] λ _=>aj (hR0 _ (λ x hx=>aw hx))<|al 47 [.own 0,.own 2,.nw,.own 2] [bq ((0+1)+1)] λ _=>aj (hR1 _ (λ x hx=>aw hx))<|ae 28 [.own 0,.own 0,.own 0,.own 1,.own 1] λ _=>RN.ret [.own 1,.own 1] [2] [] (v:=.agg #[.int .u64 r,.int .u64 r]) (H':=(ap [(fp,.lit (Setup.l S++[vP bp 0,.slice A n cap,.iface 164 (vP p0 0),.iface 164 (vP p1 0),vI 0,vI 0,vI 0,vI ((0+1)+1)]) 184 (0,0))] [])) ?_
 exact ⟨(),rfl,rfl⟩
theorem IQ (F:HL):Sp Tryz.prog 119 #[.bool true,.bool true] [] F (λ u H'=>u=vI (-1) /\ H'=[]):=by
 refine Sp.run Tryz.func119 rfl mn (A:=[]) (Ts:=[]) rfl λ w0=>?_
 refine ae 37 [] λ _=>?_
 exact RN.ret [] [] [] ⟨rfl,rfl⟩
theorem IR (a b:Int) (F:HL):Sp Tryz.prog 120 #[.agg #[.int .u64 a,.int .u64 b]] [] F (λ u H'=>u=.bool (decide (a=b)) /\ H'=[]):=by
 refine Sp.run Tryz.func120 rfl mn (A:=[]) (Ts:=[]) rfl λ w0=>?_
 refine ae 16 [.own 0,.own 0] λ n1=>?_
 exact RN.ret [] [] [] ⟨rfl,rfl⟩
theorem Ge {a b:Bool} (ha:a=true) (hb:b=true) (F:HL):Sp Tryz.prog 119 #[.bool a,.bool b] [] F (λ u H'=>u=vI (-1) /\ H'=[]):=by
 subst ha;subst hb
 exact IQ F
theorem Av (r:Int) (F:HL):Sp Tryz.prog 120 #[.agg #[.int .u64 r,.int .u64 r]] [] F (λ u H'=>u=.bool true /\ H'=[]):=by
 have h:=IR r r F
 rwa [decide_eq_true (rfl:r=r)] at h
theorem wQ (S:Setup) (bp fp n cap p0 p1:Nat) (A:Option Addr) (r:Int) (F:HL) (hR0:RootOk F p0 n r) (hR1:RootOk F p1 n r):Sp Tryz.prog 118 #[vP fp 0,vI (n:Int)] (ap [(fp,.lit (Setup.l S++[vP bp 0,.slice A n cap,.iface 164 (vP p0 0),.iface 164 (vP p1 0),vI 0,vI 0,vI 0,vI 0]) 184 (0,0))] []) F (λ u H'=>∃ _:Unit,H'=ap [(fp,.lit (Setup.l S++[vP bp 0,.slice A n cap,.iface 164 (vP p0 0),.iface 164 (vP p1 0),vI 0,vI 0,vI 0,vI 2]) 184 (0,0))] [] /\ u=.agg #[.int .u64 r,.int .u64 r]):=Cx S bp fp n cap p0 p1 A r F hR0 hR1
theorem yP (fp:Nat) (S:Setup) (bp n cap p0 p1:Nat) (A:Option Addr) (r:Int) (F:HL) (hS:SetCl F S) (hil:(aX S S.nb).length <= 1000000) (hR0:RootOk F p0 n r) (hR1:RootOk F p1 n r) (h0:n=0 -> r=lP (aX S S.nb)):Sp Tryz.prog 77 #[vP fp 0] [(fp,.lit (Setup.l S++[vP bp 0,.slice A n cap,.iface 164 (vP p0 0),.iface 164 (vP p1 0),vI 0,vI 0,vI 0,vI 0]) 184 (0,0))] F (λ u H'=>∃ _:Unit,H'=ap [(fp,.lit (Setup.l S++[vP bp 0,.slice A n cap,.iface 164 (vP p0 0),.iface 164 (vP p1 0),vI 0,vI 0,vI 0,vI 2]) 184 (0,0))] [] /\ u=vI (-1)):=by
 refine Sp.run Tryz.func77 rfl mn (A:=[(fp,.lit (Setup.l S++[vP bp 0,.slice A n cap,.iface 164 (vP p0 0),.iface 164 (vP p1 0),vI 0,vI 0,vI 0,vI 0]) 184 (0,0))]) (Ts:=[]) rfl λ w0=>?_
 refine ae 12 ([.own 0]++ow 1 16) λ n1=>RN.ct (Hp:=[]) (Tp:=[]) [] [] (Au hS.up rfl) ?_
 rintro _ q2 rfl
 refine aj (sU q2 (aX S S.nb).length (aX S S.nb) _ (aC 0) (Nat.le_refl _) hil)<|ae 4 [] λ _=>RN.draw [6,8] []<|ag [] [0,1,2,3,4,5] [.own 1,.own 1,.own 2]<|ee 6 7 ?_ ?_
 ·refine RDO.ct [] [2] [] (wQ S bp fp n cap p0 p1 A r _ (hR0.mono λ x hx=>aw hx) (hR1.mono λ x hx=>aw hx)) ?_
  rintro _ _ rfl
  refine RD.one 7 (RDO.ev [] [] λ n3=>?_)
  refine RD.one 8 (RDO.ev [] [.own 0,.own 0] λ _=>?_)
  refine RD.fin<|ae 12 [.own 3,.own 1] λ _=>RN.em ((n:Int)=0) 25 (λ h4=>?_) λ h4=>?_
  ·refine ae 11 [.own 0,.own 0] λ _=>aj (Ge (decide_eq_true (h0 (by omega))) (decide_eq_true (h0 (by omega))) _)<|ae 3 [] λ _=>RN.ret [] [1] [] (v:=vI (-1)) (H':=(ap [(fp,.lit (Setup.l S++[vP bp 0,.slice A n cap,.iface 164 (vP p0 0),.iface 164 (vP p1 0),vI 0,vI 0,vI 0,vI 2]) 184 (0,0))] [])) ?_
   exact ⟨(),rfl,rfl⟩
  ·refine ae 7 [.own 0,.own 0] λ _=>aj (Av r _)<|ae 8 [] λ _=>RN.ret [] [1] [] (v:=vI (-1)) (H':=(ap [(fp,.lit (Setup.l S++[vP bp 0,.slice A n cap,.iface 164 (vP p0 0),.iface 164 (vP p1 0),vI 0,vI 0,vI 0,vI 2]) 184 (0,0))] [])) ?_
   exact ⟨(),rfl,rfl⟩
 ·refine RDO.ev [] [] λ n5=>RD.one 6 (RDO.ct [] [3] [] (wQ S bp fp n cap p0 p1 A r _ (hR0.mono λ x hx=>aw hx) (hR1.mono λ x hx=>aw hx)) ?_)
  rintro _ _ rfl
  refine RD.one 8 (RDO.ev [] [.own 1,.own 1] λ _=>?_)
  refine RD.fin<|ae 12 [.own 3,.own 0] λ _=>RN.em ((n:Int)=0) 25 (λ h6=>?_) λ h6=>?_
  ·refine ae 11 [.own 1,.own 1] λ _=>aj (Ge (decide_eq_true (h0 (by omega))) (decide_eq_true (h0 (by omega))) _)<|ae 3 [] λ _=>RN.ret [] [0] [] (v:=vI (-1)) (H':=(ap [(fp,.lit (Setup.l S++[vP bp 0,.slice A n cap,.iface 164 (vP p0 0),.iface 164 (vP p1 0),vI 0,vI 0,vI 0,vI 2]) 184 (0,0))] [])) ?_
   exact ⟨(),rfl,rfl⟩
  ·refine ae 7 [.own 1,.own 1] λ _=>aj (Av r _)<|ae 8 [] λ _=>RN.ret [] [0] [] (v:=vI (-1)) (H':=(ap [(fp,.lit (Setup.l S++[vP bp 0,.slice A n cap,.iface 164 (vP p0 0),.iface 164 (vP p1 0),vI 0,vI 0,vI 0,vI 2]) 184 (0,0))] [])) ?_
   exact ⟨(),rfl,rfl⟩
theorem Cy (fp:Nat) (S:Setup) (bp n cap p0 p1:Nat) (A:Option Addr) (r:Int) (F:HL) (hS:SetCl F S) (hil:(aX S S.nb).length <= 1000000) (hR0:RootOk F p0 n r) (hR1:RootOk F p1 n r) (h0:n=0 -> r=lP (aX S S.nb)):Sp Tryz.prog 77 #[vP fp 0] (ap [(fp,.lit (Setup.l S++[vP bp 0,.slice A n cap,.iface 164 (vP p0 0),.iface 164 (vP p1 0),vI 0,vI 0,vI 0,vI 0]) 184 (0,0))] []) F (λ u H'=>∃ _:Unit,H'=ap [(fp,.lit (Setup.l S++[vP bp 0,.slice A n cap,.iface 164 (vP p0 0),.iface 164 (vP p1 0),vI 0,vI 0,vI 0,vI 2]) 184 (0,0))] [] /\ u=vI (-1)):=yP fp S bp n cap p0 p1 A r F hS hil hR0 hR1 h0
theorem yQ (c0:Value) (F:HL):SpD Tryz.prog 76 #[c0] (ap [] []) F (λ _ H'=>∃ _:Unit,H'=ap [] [] /\ True):=by
 exact (yO c0 F).mono λ u H' h=>⟨(),h,trivial⟩
theorem Gf (S:Setup) (bp n cap p0 p1:Nat) (A:Option Addr) (r:Int) (F:HL) (hS:SetCl F S) (hil:(aX S S.nb).length <= 1000000) (hR0:RootOk F p0 n r) (hR1:RootOk F p1 n r) (h0:n=0 -> r=lP (aX S S.nb)):Sp Tryz.prog 33 #[(Setup.v S),vP bp 0,.slice A n cap,.agg #[.iface 164 (vP p0 0),.iface 164 (vP p1 0)]] [] F (λ u H'=>∃ _:Unit,H'=ap [] [] /\ u=.agg #[vI (-1),vI 0,vI 0,vI 2]):=by
 refine Sp.runM Tryz.func33 rfl mn (A:=[]) (Ts:=[]) rfl λ w0=>?_
 refine ae 10 [] λ n1=>Jt (g:=76) (args:=#[]) (cap:=#[vP (n1+2) 0])<|ae 17 (ow 2 16++[.own 1,.own 1]) λ n2=>RN.ct [0] [] (Cy (n2+0) S bp n cap p0 p1 A r _ hS.up hil (hR0.mono λ x hx=>aw hx) (hR1.mono λ x hx=>aw hx) h0) ?_
 rintro _ _ rfl
 refine ae 15 (ow 0 5++[.own 1,.own 1,.own 1,.own 1]) λ _=>Fu ?_
 refine Ju (enters_of Tryz.func76 (by kernel_rfl) rfl) [] [] (yQ _ _) ?_
 rintro _ _ _
 refine LV.ret [.own 1,.own 1,.own 1,.own 1] [] [] (v:=.agg #[vI (-1),vI 0,vI 0,vI 2]) (H':=(ap [] [])) ?_
 exact ⟨(),rfl,rfl⟩
theorem qQ (S:Setup) (bp n cap p0 p1:Nat) (A:Option Addr) (r:Int) (F:HL) (hS:SetCl F S) (hil:(aX S S.nb).length <= 1000000) (hR0:RootOk F p0 n r) (hR1:RootOk F p1 n r) (h0:n=0 -> r=lP (aX S S.nb)):Sp Tryz.prog 33 #[Setup.v S,vP bp 0,.slice A n cap,.agg #[.iface 164 (vP p0 0),.iface 164 (vP p1 0)]] (ap [] []) F (λ u H'=>∃ _:Unit,H'=ap [] [] /\ u=.agg #[vI (-1),vI 0,vI 0,vI 2]):=Gf S bp n cap p0 p1 A r F hS hil hR0 hR1 h0
def iC (b:Nat):Setup:=⟨1,b,0,1,1,1,[⟨⟨5,[],none,0⟩,⟨0,0,0,0,0⟩,0,0⟩],⟨0,0,0,0⟩,none,0,0,none,0,0,0,⟨0,0⟩,0,0,0,1,0⟩
theorem Gg (b:Nat):iu (iC b) [] []=0:=by kernel_rfl
theorem Lj (b:Nat):SetV (iC b):=⟨⟨show (1:Int) <= 1 by decide,show (1:Int) <= 3 by decide⟩,⟨show 1 <= 1 by decide,show 1 <= 5 by decide⟩,⟨show (1:Int) <= 1 by decide,show (1:Int) <= 3 by decide⟩,⟨show (0:Int) <= 0 by decide,show (0:Int) <= 60 by decide⟩⟩
theorem IU {b:Nat} {F:HL} (hb:(b,.rows 9 1 (fM (iC b).bods) 106 (0,0)) ∈ F):SetCl F (iC b):=⟨⟨⟨show (0:Int) <= 1 by decide,show (1:Int) <= 1000000 by decide⟩,show 1 <= 1000000 by decide⟩,hb,show 0+1 <= 1 by decide,λ k hk=>by
 obtain rfl:k=0:=by have:k < 1:=hk;omega
 exact ⟨⟨.zero _,Nat.zero_le _⟩,.inl rfl⟩⟩
theorem Gh (b:Nat) (F:HL):MapIn F (iC b) [] []:=⟨.zero _,.zero _⟩
theorem lz (b:Nat):sizeOf (iC b)=60:=rfl
theorem IV {b:Nat} {F:HL} (hb:(b,.rows 9 1 (fM (iC b).bods) 106 (0,0)) ∈ F):SetIn F (iC b):=⟨⟨⟨show (0:Int) <= 1 by decide,show (1:Int) <= 1000000 by decide⟩,show 1 <= 1000000 by decide⟩,hb,show 0+1 <= 1 by decide,λ k hk=>by
 obtain rfl:k=0:=by have:k < 1:=hk;omega
 exact .circle 5 none 0⟩
theorem MY (F:HL) (hE:kQ F):Sp Tryz.prog 35 #[.string ⟨#[]⟩] (ap [] []) F (λ u H'=>∃ x:Nat × HL,H'=ap [] [x.2] /\ (u=.tuple #[vP x.1 0,vI 0] /\ Book1 0 x.1 x.2)):=wI 0 F (by decide) hE
theorem oI (F:HL) (hE0:kQ F) (hE1:cN F):Sp Tryz.prog 24 #[] [] F (λ u H'=>u=.bool true /\ H'=[]):=by
 refine Sp.run Tryz.func24 rfl mn (A:=[]) (Ts:=[]) rfl λ w0=>?_
 refine ae 16 (ow 0 16) λ n1=>RN.dn 1 (.rows 9 1 (fM (iC (n1+0)).bods) 106 (0,0))<|ae 1 [] λ _=>RN.ct (Hp:=[]) (Tp:=[]) [] [] (MY _ (aw hE0)) ?_
 rintro _ ⟨b2,T3⟩ ⟨rfl,hB4⟩
 dsimp only at hB4
 refine ae 25 (ow 0 16) λ _=>RN.ct (Hp:=[]) (Tp:=[]) [] [] (ud (iC (n1+0)) [] [] b2 0 0 0 none [] [] _ (IV (aC 1)) (Gh _ _) (Lj _) (show 0 <= 1000000 by decide) (show 0 <= 1000000 by decide) (by rw [lz];decide) (Gg _) (by decide) (λ t ht=>hB4.at (av 0) (by decide) t ht) (aw hE1) (.zero _) ⟨rfl,λ k hk=>absurd hk (Nat.not_lt_zero _)⟩ (λ i hi=>absurd hi (Nat.not_lt_zero _)) (by decide)) ?_
 rintro _ ⟨x5,S6,G7⟩ ⟨rfl,he8,hX9⟩
 dsimp only at he8 hX9
 refine ae 28 (ow 0 16) λ _=>RN.ct (Hp:=[]) (Tp:=[]) [] [] (qQ (iC (n1+0)) b2 0 0 x5 x5 none (lP ((XW (iC (n1+0)) (λ _=>(0,0)) [] (-1) 0 0 0) 0)) _ (IU (aC 1)) (show (aX (iC (n1+0)) 1).length <= 1000000 by rw [fg,lz];decide) (hX9.root (t:=0) (av 0) (Nat.zero_le _) (show (aX (iC (n1+0)) 1).length <= 1000000 by rw [fg,lz];decide)) (hX9.root (t:=0) (av 0) (Nat.zero_le _) (show (aX (iC (n1+0)) 1).length <= 1000000 by rw [fg,lz];decide)) (λ _=>rfl)) ?_
 rintro _ _ rfl
 refine ae 17 (ow 0 6) λ n10=>?_
 exact RN.ret [] [] [] ⟨rfl,rfl⟩
noncomputable section
def qR (ν:Nu) (H:AH) (w:World) (tabs:List PB) (n:Nat):HL :=
 ((List.range n).filter λ h=>(br H h).isSome && !(tabs.any λ p=>p.1 == h)).map λ h=>(ls ν h,.obj ((w.heap[ls ν h]?).getD default))
structure HeapT (ν:Nu) (H:AH) (tabs:List PB) (G n:Nat) (T:HL):Prop where
 glb:Glb ν G
 new:∀ h,n <= h -> ν h=none
 tab:∀ p ∈ tabs,ν p.1=some (p.1,p.2.1.length)
 rel:∀ F w,Rel (tabs.map fN++T++F) w -> HR ν H F w
section
variable {tabs:List PB} {G:Nat} {F:HL} {w:World}
theorem IW (ht:oG G tabs=true) (hnd:(tabs.map (·.1)).Nodup):∀ p ∈ tabs,nW tabs G p.1=some (p.1,p.2.1.length):=λ p hp=>by
 have hlt:=(eY ht p hp).1
 simp only [nW,if_pos hlt]
 congr 2
 cases hf:tabs.find? (λ q=>q.1 == p.1) with
 | none=>exact absurd (List.find?_eq_none.1 hf p hp) (by simp)
 | some q =>
  obtain ⟨hq,hq2⟩:=lu hf
  have:q=p:=mm hnd hp hq hq2
  simp [this]
theorem wR {ν:Nu} {H:AH} {n:Nat} (hH:HR ν H F w) (hc:qH H tabs=true) (hpl:∀ p ∈ tabs,rp p.2.1=true) (hν:∀ p ∈ tabs,ν p.1=some (p.1,p.2.1.length)) (hnd:(tabs.map (·.1)).Nodup) (hF:(F.map (·.1)).Nodup) :
  Rel (tabs.map fN++qR ν H w tabs n++F) w:=by
 have htab:∀ p ∈ tabs,w.heap[p.1]?=some (fN p).2.den /\ ∃ b,br H p.1=some b:=λ p hp=>t2 hH (lw hc p hp) (hpl p hp) (hν p hp)
 have hblk:∀ h,(br H h).isSome=true -> ∃ K b o,ν h=some (ls ν h,K) /\ br H h=some b /\ w.heap[ls ν h]?=some o:=λ h hh=>by
  obtain ⟨b,hb⟩:=Option.isSome_iff_exists.1 hh
  obtain ⟨r,K,o,h1,h2,h3⟩:=hH.blk h b hb
  have e:ls ν h=r:=by simp [ls,h1]
  exact ⟨K,b,o,by rw [e];exact h1,hb,by rw [e];exact h2⟩
 refine ⟨λ x hx=>?_,?_⟩
 ·rcases List.mem_append.1 hx with hx | hx
  ·rcases List.mem_append.1 hx with hx | hx
   ·obtain ⟨p,hp,rfl⟩:=List.mem_map.1 hx
    exact (htab p hp).1
   ·obtain ⟨h,hh,rfl⟩:=List.mem_map.1 hx
    have h2:=(List.mem_filter.1 hh).2
    rw [Bool.and_eq_true] at h2
    obtain ⟨K,b,o,_,_,e⟩:=hblk h h2.1
    show w.heap[ls ν h]?=some ((w.heap[ls ν h]?).getD default)
    rw [e];rfl
  ·exact hH.frm x hx
 ·-- the handles
  have hs:∀ h ∈ tabs.map (·.1)++(List.range n).filter (λ h=>(br H h).isSome && !(tabs.any λ p=>p.1 == h)),(br H h).isSome=true:=λ h hh=>by
   rcases List.mem_append.1 hh with hh | hh
   ·obtain ⟨p,hp,rfl⟩:=List.mem_map.1 hh
    obtain ⟨_,b,hb⟩:=htab p hp
    rw [hb];rfl
   ·have h2:=(List.mem_filter.1 hh).2
    rw [Bool.and_eq_true] at h2
    exact h2.1
  have hnd2:(tabs.map (·.1)++(List.range n).filter (λ h=>(br H h).isSome && !(tabs.any λ p=>p.1 == h))).Nodup:=by
   refine List.nodup_append.2 ⟨hnd,(List.nodup_range).sublist List.filter_sublist,λ a ha b hb e=>?_⟩
   subst e
   have h2:=(List.mem_filter.1 hb).2
   rw [Bool.and_eq_true] at h2
   obtain ⟨p,hp,e⟩:=List.mem_map.1 ha
   have h3:(tabs.any λ p=>p.1 == a)=true:=List.any_eq_true.2 ⟨p,hp,by simp [e]⟩
   rw [h3] at h2
   exact absurd h2.2 (by decide)
  have e1:(tabs.map fN++qR ν H w tabs n).map (·.1)=(tabs.map (·.1)++(List.range n).filter (λ h=>(br H h).isSome && !(tabs.any λ p=>p.1 == h))).map (ls ν):=by
   unfold qR
   simp only [List.map_append,List.map_map]
   congr 1
   apply List.map_congr_left
   intro p hp
   simp [fN,ls,hν p hp]
  rw [List.map_append,List.nodup_append,e1]
  refine ⟨?_,hF,λ a ha b hb=>?_⟩
  ·rw [List.Nodup,List.pairwise_map]
   refine List.pairwise_iff_forall_sublist.2 λ {a b} hsb=>?_
   obtain ⟨K1,b1,_,x1,x2,_⟩:=hblk a (hs a (hsb.subset (by simp)))
   obtain ⟨K2,b2,_,y1,y2,_⟩:=hblk b (hs b (hsb.subset (by simp)))
   intro e
   have hab:a=b:=hH.inj _ _ _ _ _ _ _ x2 y2 x1 (by rw [e];exact y1)
   have:=hnd2.sublist hsb
   simp [hab] at this
  ·obtain ⟨h,hh,rfl⟩:=List.mem_map.1 ha
   obtain ⟨x,hx,rfl⟩:=List.mem_map.1 hb
   obtain ⟨K,b,_,g1,g2,_⟩:=hblk h (hs h hh)
   exact (hH.apt _ _ _ _ g2 g1 x hx).symm
theorem Lk {ν:Nu} {H:AH} {n:Nat} (hH:HR ν H F w) (hG:Glb ν G) (hnew:∀ h,n <= h -> ν h=none) (hν:∀ p ∈ tabs,ν p.1=some (p.1,p.2.1.length)) (htab:∀ p ∈ tabs,w.heap[p.1]?=some (fN p).2.den):HeapT ν H tabs G n (qR ν H w tabs n):=by
 refine ⟨hG,hnew,hν,λ F2 w2 hR=>?_⟩
 have key:∀ h b r K,br H h=some b -> ν h=some (r,K) -> ∃ x,x ∈ tabs.map fN++qR ν H w tabs n /\ x.1=r /\ w.heap[r]?=some x.2.den:=λ h b r K hb h1=>by
  obtain ⟨r',K',o,h2,h3,_⟩:=hH.blk h b hb
  rw [h1] at h2
  cases h2
  by_cases ht:(tabs.any λ p=>p.1 == h)=true
  ·obtain ⟨p,hp,e⟩:=List.any_eq_true.1 ht
   have e:p.1=h:=by simpa using e
   subst e
   have h4:=hν p hp
   rw [h1] at h4
   cases h4
   exact ⟨fN p,List.mem_append_left _ (List.mem_map.2 ⟨p,hp,rfl⟩),rfl,htab p hp⟩
  ·have hlt:h < n:=by
    rcases Nat.lt_or_ge h n with h4 | h4
    ·exact h4
    ·rw [hnew h h4] at h1;cases h1
   have en:ls ν h=r:=by simp [ls,h1]
   refine ⟨(ls ν h,.obj ((w.heap[ls ν h]?).getD default)),List.mem_append_right _ (List.mem_map.2 ⟨h,List.mem_filter.2 ⟨List.mem_range.2 hlt,?_⟩,rfl⟩),en,?_⟩
   ·rw [hb,Bool.eq_false_iff.2 ht];rfl
   ·show _=some ((w.heap[ls ν h]?).getD default)
    rw [en,h3];rfl
 refine ⟨λ h b hb=>?_,hH.inj,λ x hx=>hR.holds x (List.mem_append_right _ hx),λ h b r K hb h1 x hx e=>?_⟩
 ·obtain ⟨r,K,o,h1,h2,h3⟩:=hH.blk h b hb
  obtain ⟨x,hx,rfl,e⟩:=key h b r K hb h1
  refine ⟨_,K,o,h1,?_,h3⟩
  rw [hR.holds x (List.mem_append_left _ hx),<- e,h2]
 ·obtain ⟨y,hy,rfl,_⟩:=key h b r K hb h1
  have hn:=hR.nodup
  rw [List.map_append,List.nodup_append] at hn
  exact hn.2.2 y.1 (List.mem_map.2 ⟨y,hy,rfl⟩) x.1 (List.mem_map.2 ⟨x,hx,rfl⟩) e.symm
end
def jH:Value -> Nat
 | .int .i64 _=>0
 | .string _=>1
 | .slice _ _ _=>2
 | _=>3
theorem Gi (ν:Nu) (v:Value):jH (kh ν v)=jH v:=by
 cases v with
 | pointer a=>cases a <;> rfl
 | slice a n c=>cases a <;> rfl
 | map r=>cases r <;> rfl
 | _=>rfl
def dh:List Value -> List Nat
 | []=>[]
 | v :: l=>jH v :: dh l
theorem nZ (ν:Nu):∀ l,dh (qF ν l)=dh l
 | []=>rfl
 | v :: l=>by rw [qF,dh,dh,Gi,nZ ν l]
def yR:List Nat -> List Nat -> Bool
 | [],[]=>true
 | a :: l,b :: m=>match Nat.beq a b with
  | true=>yR l m
  | false=>false
 | _,_=>false
theorem uf:∀ {l m:List Nat},yR l m=true -> l=m
 | [],[],_=>rfl
 | a :: l,b :: m,h=>by
  rw [yR] at h
  split at h
  ·rename_i e
   rw [Nat.eq_of_beq_eq_true e,uf h]
  ·cases h
 | [],_ :: _,h=>by simp [yR] at h
 | _ :: _,[],h=>by simp [yR] at h
theorem nh {v:Value} (h:jH v=0):∃ a,v=vI a:=by
 cases v with
 | int k x =>
  cases k with
  | i64=>exact ⟨x,rfl⟩
  | _=>simp [jH] at h
 | _=>simp [jH] at h
theorem Gj {v:Value} (h:jH v=1):∃ a,v=.string a:=by
 cases v with
 | int k x=>cases k <;> simp [jH] at h
 | string s=>exact ⟨s,rfl⟩
 | _=>simp [jH] at h
theorem Aw {v:Value} (h:jH v=2):∃ a n c,v=.slice a n c:=by
 cases v with
 | int k x=>cases k <;> simp [jH] at h
 | slice a n c=>exact ⟨a,n,c,rfl⟩
 | _=>simp [jH] at h
theorem bP {l:List Value} {a:Nat} {m:List Nat} (h:dh l=a :: m):∃ v l',l=v :: l' /\ jH v=a /\ dh l'=m:=by
 cases l with
 | nil=>simp [dh] at h
 | cons v l' =>
  rw [dh] at h
  injection h with h1 h2
  exact ⟨v,l',rfl,h1,h2⟩
theorem sW {l:List Value} (h:dh l=[]):l=[]:=by
 cases l with
 | nil=>rfl
 | cons v l'=>simp [dh] at h
def Cz:Value -> Bool
 | .int .i64 x=>x == 0
 | _=>false
theorem ug {v:Value} (h:Cz v=true):v=.int .i64 0:=by
 cases v with
 | int k x =>
  cases k with
  | i64=>simp [Cz] at h;rw [h]
  | _=>simp [Cz] at h
 | _=>simp [Cz] at h
def parts:Value -> Option (List Value)
 | .tuple ⟨[.agg ⟨cs⟩,p,z]⟩=>match Cz z,Cd cs,kO p with
  | true,true,true=>some cs
  | _,_,_=>none
 | _=>none
def yS (tabs:List PB) (m:List Nat):Option Rs -> Bool
 | some (.fn (.tuple ⟨[.agg ⟨qs⟩,z]⟩) H _)=>match Cz z,Cd qs,yR (dh qs) m with
  | true,true,true=>qH H tabs
  | _,_,_=>false
 | _=>false
def qS (P:Program) (G k:Nat) (g:FuncId) (tabs:List PB) (l m:List Nat):Option Rs -> Bool
 | some (.fn v H n)=>match parts v with
  | some cs=>match qH H tabs,yR (dh cs) l with
   | true,true=>yS tabs m (oV P G k (.fn g [.agg ⟨cs⟩] H n))
   | _,_=>false
  | none=>false
 | _=>false
theorem Gk {v:Value} {cs:List Value} (h:parts v=some cs):∃ p,v=.tuple ⟨[.agg ⟨cs⟩,p,.int .i64 0]⟩ /\ Cd cs=true /\ kO p=true:=by
 unfold parts at h
 split at h
 ·split at h
  ·rename_i h1 h2 h3
   cases h
   rw [ug h1]
   exact ⟨_,rfl,h2,h3⟩
  ·cases h
 ·cases h
theorem Gl {ν:Nu} {c:Array Value} {v':Value} (h:VRi ν (.tuple c) v'):∃ c':Array Value,v'=.tuple c' /\ c.size=c'.size /\ ∀ (i:Nat) (v w:Value),c[i]?=some v -> c'[i]?=some w -> VRi ν v w:=by
 cases h with
 | atom _ h=>simp [cg] at h
 | tuple e h=>exact ⟨_,rfl,e,h⟩
theorem Ll {ν:Nu} {c:Array Value} {v':Value} (h:VRi ν (.agg c) v'):∃ c':Array Value,v'=.agg c' /\ c.size=c'.size /\ ∀ (i:Nat) (v w:Value),c[i]?=some v -> c'[i]?=some w -> VRi ν v w:=by
 cases h with
 | atom _ h=>simp [cg] at h
 | agg e h=>exact ⟨_,rfl,e,h⟩
def N7 (P:Program) (G k:Nat) (f:FuncId) (tabs:List PB) (args:List Value) (n0:Nat) (cs':List Value) (T:HL):Prop :=
 ∃ v H n ν cs,oV P G k (.fn f args (nV tabs) n0)=some (.fn v H n) /\ parts v=some cs /\ G <= n /\ HeapT ν H tabs G n T /\ LR ν cs cs'
section
variable {P:Program} {G k n0:Nat} {l m:List Nat} {f g:FuncId} {tabs:List PB} {args:List Value}
theorem CA (hm:P.follows .mixedOrders=true) (hG:Nat.ble G n0=true) (ht:oG G tabs=true) (ha:rp args=true) (hnd:(tabs.map (·.1)).Nodup) (hrun:qS P G k g tabs l m (oV P G k (.fn f args (nV tabs) n0))=true) {F:HL} :
  Sp P f ⟨args⟩ (tabs.map fN) F λ u H'=>∃ cs T p,N7 P G k f tabs args n0 cs T /\ dh cs=l /\ u=.tuple ⟨[.agg ⟨cs⟩,p,.int .i64 0]⟩ /\ H'=tabs.map fN++T:=by
 intro w hR
 have hG:=bA hG
 cases hres:oV P G k (.fn f args (nV tabs) n0) with
 | none=>rw [hres] at hrun;cases hrun
 | some res=>cases res with
  | cd e s=>rw [hres] at hrun;cases hrun
  | fn v H n' =>
   have hres0:=hres
   rw [hres] at hrun
   simp only [qS] at hrun
   split at hrun
   case h_2=>cases hrun
   rename_i cs hp
   split at hrun
   case h_2=>cases hrun
   rename_i q1 q2
   obtain ⟨p,hv0,hok,hokp⟩:=Gk hp
   have q2:=uf q2
   rw [pq] at hres
   obtain ⟨hn,hcall⟩:=po hm k _ _ hres
   have hlt:∀ p ∈ tabs,p.1 < G:=λ p hp=>(eY ht p hp).1
   refine (hcall (nW tabs G) F w args (λ k hk=>⟨_,if_pos hk⟩) (λ h h1 h2=>by simp only [nW];rw [if_neg (by omega)]) (Fl ht hR) (LR.plain_refl ha)).mono ?_
   rintro e w' ⟨ν,v',rfl,hv,hext,hH,hbel⟩
   have hνt:∀ p ∈ tabs,ν p.1=some (p.1,p.2.1.length):=λ p hp=>by
    rw [hext.out _ (.inl (by have:=hlt p hp;omega))]
    exact IW ht hnd p hp
   have hglb:Glb ν G:=λ k hk=>by
    rw [hext.out _ (.inl (by omega))]
    exact ⟨_,if_pos hk⟩
   have hnew:∀ h,n' <= h -> ν h=none:=λ h hh=>by
    rw [hext.out _ (.inr hh)]
    simp only [nW]
    rw [if_neg (by omega)]
   have hpl:∀ p ∈ tabs,rp p.2.1=true:=λ p hp=>(eY ht p hp).2
   have hF:(F.map (·.1)).Nodup:=by
    have:=hR.nodup
    rw [List.map_append,List.nodup_append] at this
    exact this.2.1
   have hrel:=wR (n:=n') hH q1 hpl hνt hnd hF
   have hT:=Lk hH hglb hnew hνt (λ p hp=>(t2 hH (lw q1 p hp) (hpl p hp) (hνt p hp)).1)
   have hvo:=pr hv (by rw [hv0,kO,Jr,Cd,kO,Jr,hok,Cd,hokp];rfl)
   rw [hv0] at hvo
   have hcs:LR ν cs (qF ν cs):=by
    rw [hv0] at hv
    obtain ⟨c1,e1,_,h1⟩:=Gl hv
    rw [hvo] at e1
    cases e1
    obtain ⟨c2,e2,e3,h2⟩:=Ll (h1 0 _ _ rfl rfl)
    cases e2
    exact LR.of_arr (c:=⟨cs⟩) (c':=⟨qF ν cs⟩) e3 h2
   refine ⟨v',tabs.map fN++qR ν H w' tabs n',rfl,⟨qF ν cs,_,kh ν p,⟨v,H,n',ν,cs,hres0,hp,by omega,hT,hcs⟩,?_,?_,rfl⟩,hrel,hbel⟩
   ·rw [nZ];exact q2
   ·rw [hvo];rfl
theorem CB (hm:P.follows .mixedOrders=true) (hrun:qS P G k g tabs l m (oV P G k (.fn f args (nV tabs) n0))=true) (ht:oG G tabs=true) (hnd:(tabs.map (·.1)).Nodup) {cs':List Value} {T F:HL} (h:N7 P G k f tabs args n0 cs' T) :
  Sp P g ⟨[.agg ⟨cs'⟩]⟩ (tabs.map fN++T) F λ u H'=>∃ qs,dh qs=m /\ u=.tuple ⟨[.agg ⟨qs⟩,.int .i64 0]⟩ /\ H'=tabs.map fN:=by
 intro w hR
 obtain ⟨v,H,n,ν,cs,hres,hp,hGn,hT,hcs⟩:=h
 rw [hres] at hrun
 simp only [qS] at hrun
 rw [hp] at hrun
 simp only at hrun
 split at hrun
 case h_2=>cases hrun
 cases hres2:oV P G k (.fn g [.agg ⟨cs⟩] H n) with
 | none=>rw [hres2] at hrun;cases hrun
 | some res=>cases res with
  | cd e s=>rw [hres2] at hrun;simp [yS] at hrun
  | fn v2 H2 n2 =>
   rw [hres2] at hrun
   unfold yS at hrun
   split at hrun
   case h_2=>cases hrun
   rename_i qs z H3 n3 he
   cases he
   split at hrun
   case h_2=>cases hrun
   rename_i z1 z2 z3
   have z3:=uf z3
   rw [pq] at hres2
   obtain ⟨hn,hcall⟩:=po hm k _ _ hres2
   have hpl:∀ p ∈ tabs,rp p.2.1=true:=λ p hp=>(eY ht p hp).2
   have hF:(F.map (·.1)).Nodup:=by
    have:=hR.nodup
    rw [List.map_append,List.nodup_append] at this
    exact this.2.1
   have hl:=LR.arr hcs
   refine (hcall ν F w [.agg ⟨cs'⟩] hT.glb (λ h h1 h2=>hT.new h h1) (hT.rel F w hR) (.cons (.agg hl.1 hl.2) .nil)).mono ?_
   rintro e w' ⟨ν2,v',rfl,hv,hext,hH,hbel⟩
   have hνt:∀ p ∈ tabs,ν2 p.1=some (p.1,p.2.1.length):=λ p hp=>by
    rw [hext.out _ (.inl (by have:=(eY ht p hp).1;omega))]
    exact hT.tab p hp
   have hrel:=wR (n:=0) hH hrun hpl hνt hnd hF
   have hvo:=pr hv (by rw [kO,Jr,Cd,kO,Jr,z2,ug z1];rfl)
   refine ⟨v',tabs.map fN,rfl,⟨qF ν2 qs,?_,?_,rfl⟩,?_,hbel⟩
   ·rw [nZ];exact z3
   ·rw [hvo,ug z1];rfl
   ·have e0:qR ν2 H2 w' tabs 0=[]:=rfl
    rw [e0,List.append_nil] at hrel
    exact hrel
end
theorem CC {P:Program} {f:FuncId} {args:Array Value} {x:Nat × Blk} {T F:HL} {Q:Value -> HL -> Prop} (hx:x ∈ F) (h:∀ F0,Sp P f args ([x]++T) F0 λ u H'=>∃ Hp,Q u Hp /\ H'=[x]++Hp):Sp P f args T F Q:=by
 obtain ⟨l1,l2,rfl⟩:=List.append_of_mem hx
 have hp:∀ H:HL,([x]++H++(l1++l2)).Perm (H++(l1++x :: l2)):=λ H=>by
  refine List.Perm.trans ?_ (List.Perm.append_left H List.perm_middle.symm)
  show (x :: (H++(l1++l2))).Perm (H++x :: (l1++l2))
  exact List.perm_middle.symm
 intro w hR
 have hR1:Rel ([x]++T++(l1++l2)) w:=hR.perm (hp T)
 refine (h (l1++l2) w hR1).mono ?_
 rintro e w' ⟨v,H',he,⟨Hp,hq,rfl⟩,hR',hb⟩
 exact ⟨v,Hp,he,hq,hR'.perm (hp Hp).symm,hb⟩
def oa (src:ByteArray):Bool:=qS Tryz.prog 3 100000 65 gt [0,0,1,2,0,0,1,2,0,0,1,2] [2,0,0,0] (oV Tryz.prog 3 100000 (.fn 64 [.string src] (nV gt) 3))
theorem Gn:oa "".toUTF8=true:=by kernel_rfl
end
end Go.Proofs.YtghjbimijeinfaaGreatDoor
