import Derived.Test.YtghjbimijeinfaaGreatDoorY36
import Derived.Test.YtghjbimijeinfaaGreatDoorY31
import Derived.Test.YtghjbimijeinfaaGreatDoorProg
import Derived.RecoverIn
import Derived.Test.YtghjbimijeinfaaGreatDoorY35
set_option maxHeartbeats 4000000
set_option maxRecDepth 100000
set_option linter.unusedSimpArgs false
set_option linter.unusedVariables false
namespace Go.Proofs.YtghjbimijeinfaaGreatDoor
open Go.RowKit
theorem I6 (S:Setup) (rs_:List Bx) (ds_:List Dr) (bp n cap jj:Nat) (A:Option Addr) (rs:List Rw) (xss:List (List Inp)) (F:HL) (hS:SetIn F S) (hM:MapIn F S rs_ ds_) (hV:SetV S) (hrn:S.rn <= 1000000) (hdn:S.dn <= 1000000) (hsz:(sizeOf S).toNat <= 1000000) (hv:fJ S rs_ ds_=0) (hj:jj < 5) (hA:∀ t,0 <= t -> AtOk F bp t (jj,0)) (hE:ck F) (hr:RowL fh 56 F A n rs) (hw:RwsIn F rs xss) (hrow:∀ i,i < n -> fN S.players (xss.getD i [])) (h9:n <= 9):Sp Tryz.prog 25 #[(Setup.v S),vP bp 0,.slice A n cap] [] F (λ u H'=>∃ x:Nat × Setup × HL,H'=ap [] [x.2.2] /\ (u=.tuple #[.iface 164 (vP x.1 0),vI 0] /\ SetEq S x.2.1 /\ ExeH rs_ ds_ bp x.1 S x.2.1 (-1) 0 0 0 (XW S (λ _=>(jj,0)) xss (-1) 0 0 0) (XN S (λ _=>(jj,0)) xss (-1) 0 0 0) n xss x.2.2)):=by
 refine Sp.run Tryz.func25 rfl mn (A:=[]) (Ts:=[]) rfl λ w0=>?_
 refine ae 13 (ow 0 16) λ n1=>RN.ct (Hp:=[]) (Tp:=[]) [] [] (F5 (cap:=cap) hS.up hM.up hV hrn hdn hsz hv (j:=(jj,0)) hj (λ t ht=>(hA t ht).mono λ x hx=>au hx) (au hE) hr.up (hw.mono λ x hx=>au hx) h9 hrow (qZ S)) ?_
 rintro _ ⟨⟨q2,A3,c4⟩,E5⟩ ⟨hs6,rfl⟩
 refine ae 24 (ow 1 16) λ _=>RN.ct (Hp:=[]) (Tp:=[]) [] [] (re S rs_ ds_ bp n cap (λ _=>(jj,0)) A rs xss (-1) 0 0 0 (XW S (λ _=>(jj,0)) xss (-1) 0 0 0) (XN S (λ _=>(jj,0)) xss (-1) 0 0 0) _ hS.up.cl hM.up (by have h_:=hV.nb;omega) hrn hdn hsz (au hE) hr.up (hw.mono λ x hx=>au hx) (λ k hk=>by have h_:=(hrow k hk).1;have h2_:=hV.pl;omega) (by omega) rfl (λ i hi=>⟨hj,(hA _ (by omega)).mono λ x hx=>au hx⟩) (λ S3 h3 t ht=>Gg (J:=(λ _=>(jj,0))) (ct:=(-1)) (tr:=0) (ix:=0) hV (show n <= 900 by omega) hrow 0 (.inl (by decide)) h3 ht)) ?_
 rintro _ ⟨x7,S8,G9⟩ ⟨rfl,he10,hX11⟩
 dsimp only at he10 hX11
 refine ae 5 [] λ _=>RN.ret [] [] [0] (v:=.tuple #[.iface 164 (vP x7 0),vI 0]) (H':=(ap [] [G9])) ?_
 exact ⟨(x7,S8,G9),rfl,rfl,he10,hX11⟩
theorem I7 (S:Setup) (rs_:List Bx) (ds_:List Dr) (bp n cap jj:Nat) (A:Option Addr) (rs:List Rw) (xss:List (List Inp)) (F:HL) (hS:SetIn F S) (hM:MapIn F S rs_ ds_) (hV:SetV S) (hrn:S.rn <= 1000000) (hdn:S.dn <= 1000000) (hsz:(sizeOf S).toNat <= 1000000) (hv:fJ S rs_ ds_=0) (hj:jj < 5) (hA:∀ t,0 <= t -> AtOk F bp t (jj,0)) (hE:ck F) (hr:RowL fh 56 F A n rs) (hw:RwsIn F rs xss) (hrow:∀ i,i < n -> fN S.players (xss.getD i [])) (h9:n <= 9):Sp Tryz.prog 25 #[Setup.v S,vP bp 0,.slice A n cap] (ap [] []) F (λ u H'=>∃ x:Nat × Setup × HL,H'=ap [] [x.2.2] /\ (u=.tuple #[.iface 164 (vP x.1 0),vI 0] /\ SetEq S x.2.1 /\ ExeH rs_ ds_ bp x.1 S x.2.1 (-1) 0 0 0 (XW S (λ _=>(jj,0)) xss (-1) 0 0 0) (XN S (λ _=>(jj,0)) xss (-1) 0 0 0) n xss x.2.2)):=I6 S rs_ ds_ bp n cap jj A rs xss F hS hM hV hrn hdn hsz hv hj hA hE hr hw hrow h9
def j4 (S:Setup) (n:Nat) (ct tr ix vv:Int):Prop:=(0 <= ct /\ ct < (n:Int)) /\ 0 <= tr /\ ((32 <= ix /\ ix < 48) \/ (af S 0 <= ix /\ ix < sizeOf S)) /\ (-16384 <= vv /\ vv <= 16384)
theorem Gl {S:Setup} (hV:SetV S) {n:Nat} {ct tr ix vv:Int} (h:j4 S n ct tr ix vv):CD S ix:=by
 rcases h.2.2.1 with h1 | h1
 ·exact .inl h1
 ·right
  have h2:=hV.pl
  have h3:=hV.nb
  rcases lF (S:=S) (by omega) 0 with e | ⟨_,_,e⟩
  ·unfold af at e
   rw [if_neg (by omega),if_neg (by omega)] at e
   omega
  ·omega
theorem I8 (S:Setup) (rs_:List Bx) (ds_:List Dr) (bp n cap jj:Nat) (A:Option Addr) (rs:List Rw) (xss:List (List Inp)) (ct tr ix vv:Int) (F:HL) (hS:SetIn F S) (hM:MapIn F S rs_ ds_) (hV:SetV S) (hrn:S.rn <= 1000000) (hdn:S.dn <= 1000000) (hsz:(sizeOf S).toNat <= 1000000) (hv:fJ S rs_ ds_=0) (hj:jj < 5) (hA:∀ t,0 <= t -> AtOk F bp t (jj,0)) (hE:ck F) (hr:RowL fh 56 F A n rs) (hw:RwsIn F rs xss) (hrow:∀ i,i < n -> fN S.players (xss.getD i [])) (h9:n <= 9):Sp Tryz.prog 31 #[(Setup.v S),vP bp 0,.slice A n cap,vI ct,vI tr,.agg #[vI ix,vI vv]] [] F (λ u H'=>∃ x:Nat × Setup × HL,H'=ap [] [x.2.2] /\ ((j4 S n ct tr ix vv /\ u=.tuple #[.iface 164 (vP x.1 0),vI 0] /\ SetEq S x.2.1 /\ ExeH rs_ ds_ bp x.1 S x.2.1 ct tr ix vv (XW S (λ _=>(jj,0)) xss ct tr ix vv) (XN S (λ _=>(jj,0)) xss ct tr ix vv) n xss x.2.2) \/ (¬ j4 S n ct tr ix vv /\ u=.tuple #[.nilIface,vI 1]))):=by
 have hpl_:=hV.pl
 have hnb_:=hV.nb
 refine Sp.run Tryz.func31 rfl mn (A:=[]) (Ts:=[]) rfl λ w0=>?_
 refine ae 14 (ow 1 16) λ n1=>RN.ct (Hp:=[]) (Tp:=[]) [] [] (F5 (cap:=cap) hS.up hM.up hV hrn hdn hsz hv (j:=(jj,0)) hj (λ t ht=>(hA t ht).mono λ x hx=>au hx) (au hE) hr.up (hw.mono λ x hx=>au hx) h9 hrow (qZ S)) ?_
 rintro _ ⟨⟨q2,A3,c4⟩,E5⟩ ⟨hs6,rfl⟩
 refine ae 19 [] λ _=>om (σ:=Bool) (λ e1_=>⟨[(1,vP bp 0),(2,.slice A n cap),(3,vI ct),(4,vI tr),(6,vP (n1+0) 0),(11,vP (n1+1) 0),(17,.bool e1_)],[(q2,.rows 1 ((gP (rG S.std (λ _=>(jj,0)) xss) ⟨aK S S.nb,[],0⟩ n).cs.length) (aL (gP (rG S.std (λ _=>(jj,0)) xss) ⟨aK S S.nb,[],0⟩ n).cs) 3 (0,0)),((n1+1),.lit [vI ix,vI vv] 87 (0,0)),((n1+0),.lit (Setup.l S) 31 (0,0))],[E5],e1_=(decide (32 <= ix /\ ix < 48)),0⟩) ?_ ?_
 ·intro mt7
  refine ae 5 [.own 1] λ _=>RN.em (ix >= 32) 34 (λ h8=>?_) λ h8=>?_
  ·refine ae 6 [.own 1] λ _=>?_
   refine mt7 ((decide (ix < 48))) [0,1,2] [0] ?_
   try dsimp only
   first | (exact (decide_eq_decide.2 ⟨λ h_=>⟨by omega,by omega⟩,λ h_=>by omega⟩)) | skip
  ·refine ae 6 [] λ _=>?_
   refine mt7 false [0,1,2] [0] ?_
   try dsimp only
   exact (decide_eq_false (p:=(32 <= ix /\ ix < 48)) (λ h_=>by omega)).symm
 ·rintro e1_ he1_
  refine ae 2 [] λ _=>om (σ:=Bool) (λ e2_=>⟨[(1,vP bp 0),(2,.slice A n cap),(3,vI ct),(4,vI tr),(6,vP (n1+0) 0),(11,vP (n1+1) 0),(17,.bool e1_),(18,.bool e2_)],[(q2,.rows 1 ((gP (rG S.std (λ _=>(jj,0)) xss) ⟨aK S S.nb,[],0⟩ n).cs.length) (aL (gP (rG S.std (λ _=>(jj,0)) xss) ⟨aK S S.nb,[],0⟩ n).cs) 3 (0,0)),((n1+1),.lit [vI ix,vI vv] 87 (0,0)),((n1+0),.lit (Setup.l S) 31 (0,0))],[E5],e2_=(decide (af S 0 <= ix /\ ix < sizeOf S)),0⟩) ?_ ?_
  ·intro mt9
   refine RN.draw [] []<|ag [] [0,2,1] (ow 2 16++[.own 1])<|ar [] 3 (λ X_=>(bS S 0 _ hS.toSetN)) ?_
   have hb10:=cB hS.toSetN 0
   refine ag [] [4,5] []<|RD.em (ix >= af S 0) 44 (λ h11=>?_) λ h11=>?_
   ·refine ag [] [6,8,7] (ow 2 16++[.own 1])<|ar [] 9 (λ X_=>(ld S _ hS.toSetN))<|ag [] [10,11,12] []<|RD.fin ?_
    refine mt9 ((decide (ix < sizeOf S))) [0,1,2] [0] ?_
    try dsimp only
    first | (exact (decide_eq_decide.2 ⟨λ h_=>⟨by omega,by omega⟩,λ h_=>by omega⟩)) | skip
   ·refine ag [] [6,8,7,9,10,11,12] []<|RD.fin ?_
    refine mt9 false [0,1,2] [0] ?_
    try dsimp only
    exact (decide_eq_false (p:=(af S 0 <= ix /\ ix < sizeOf S)) (λ h_=>by omega)).symm
  ·rintro e2_ he2_
   refine ae 2 [] λ _=>om (σ:=Bool) (λ e3_=>⟨[(1,vP bp 0),(2,.slice A n cap),(3,vI ct),(4,vI tr),(6,vP (n1+0) 0),(11,vP (n1+1) 0),(17,.bool e1_),(18,.bool e2_),(19,.bool e3_)],[(q2,.rows 1 ((gP (rG S.std (λ _=>(jj,0)) xss) ⟨aK S S.nb,[],0⟩ n).cs.length) (aL (gP (rG S.std (λ _=>(jj,0)) xss) ⟨aK S S.nb,[],0⟩ n).cs) 3 (0,0)),((n1+1),.lit [vI ix,vI vv] 87 (0,0)),((n1+0),.lit (Setup.l S) 31 (0,0))],[E5],e3_=(decide (-16384 <= vv /\ vv <= 16384)),0⟩) ?_ ?_
   ·intro mt12
    refine ae 5 [.own 1] λ _=>RN.em (vv >= (-16384)) 54 (λ h13=>?_) λ h13=>?_
    ·refine ae 6 [.own 1] λ _=>?_
     refine mt12 ((decide (vv <= 16384))) [0,1,2] [0] ?_
     try dsimp only
     first | (exact (decide_eq_decide.2 ⟨λ h_=>⟨by omega,by omega⟩,λ h_=>by omega⟩)) | skip
    ·refine ae 6 [] λ _=>?_
     refine mt12 false [0,1,2] [0] ?_
     try dsimp only
     exact (decide_eq_false (p:=(-16384 <= vv /\ vv <= 16384)) (λ h_=>by omega)).symm
   ·rintro e3_ he3_
    refine ae 7 [] λ _=>RN.em (ct < 0) 61 (λ h14=>?_) λ h14=>?_
    ·refine ae 30 [] λ _=>RN.ret [] [] [] (v:=.tuple #[.nilIface,vI 1]) (H':=(ap [] [])) ?_
     refine ⟨(0,S,[]),by simp [ap],.inr ⟨λ h_=>?_,rfl⟩⟩
     obtain ⟨h1_,h2_,h3_,h4_⟩:=h_
     omega
    ·refine ae 6 [] λ _=>RN.em (ct >= (n:Int)) 67 (λ h15=>?_) λ h15=>?_
     ·refine ae 24 [] λ _=>RN.ret [] [] [] (v:=.tuple #[.nilIface,vI 1]) (H':=(ap [] [])) ?_
      refine ⟨(0,S,[]),by simp [ap],.inr ⟨λ h_=>?_,rfl⟩⟩
      obtain ⟨h1_,h2_,h3_,h4_⟩:=h_
      omega
     ·refine ae 4 [] λ _=>RN.em (tr < 0) 71 (λ h16=>?_) λ h16=>?_
      ·refine ae 20 [] λ _=>RN.ret [] [] [] (v:=.tuple #[.nilIface,vI 1]) (H':=(ap [] [])) ?_
       refine ⟨(0,S,[]),by simp [ap],.inr ⟨λ h_=>?_,rfl⟩⟩
       obtain ⟨h1_,h2_,h3_,h4_⟩:=h_
       omega
      ·refine ae 3 [] λ _=>mL (e1_) 74 (λ h17=>?_) λ h17=>?_
       ·refine ae 10 [] λ _=>mL (e3_) 82 (λ h18=>?_) λ h18=>?_
        ·refine ae 4 [] λ _=>?_
         have fe1_:(32 <= ix /\ ix < 48):=by rw [he1_] at h17;simpa using h17
         have fe3_:(-16384 <= vv /\ vv <= 16384):=by rw [he3_] at h18;simpa using h18
         have hfit_:j4 S n ct tr ix vv:=⟨⟨by omega,by omega⟩,by omega,by omega,by omega⟩
         have hch_:=Gl hV hfit_
         refine ae 8 (ow 2 16++[.own 1,.own 1]) λ _=>RN.ct (Hp:=[]) (Tp:=[]) [] [] (re S rs_ ds_ bp n cap (λ _=>(jj,0)) A rs xss ct tr ix vv (XW S (λ _=>(jj,0)) xss ct tr ix vv) (XN S (λ _=>(jj,0)) xss ct tr ix vv) _ hS.up.cl hM.up (by have h_:=hV.nb;omega) hrn hdn hsz (au hE) hr.up (hw.mono λ x hx=>au hx) (λ k hk=>by have h_:=(hrow k hk).1;have h2_:=hV.pl;omega) (by omega) rfl (λ i hi=>⟨hj,(hA _ (by omega)).mono λ x hx=>au hx⟩) (λ S3 h3 t ht=>Gg (J:=(λ _=>(jj,0))) (ct:=ct) (tr:=tr) (ix:=ix) hV (show n <= 900 by omega) hrow vv (.inr hch_) h3 ht)) ?_
         rintro _ ⟨x19,S20,G21⟩ ⟨rfl,he22,hX23⟩
         dsimp only at he22 hX23
         refine ae 5 [] λ _=>RN.ret [] [] [0] (v:=.tuple #[.iface 164 (vP x19 0),vI 0]) (H':=(ap [] [G21])) ?_
         exact ⟨(x19,S20,G21),rfl,.inl ⟨hfit_,rfl,he22,hX23⟩⟩
        ·refine ae 7 [] λ _=>RN.ret [] [] [] (v:=.tuple #[.nilIface,vI 1]) (H':=(ap [] [])) ?_
         refine ⟨(0,S,[]),by simp [ap],.inr ⟨λ h_=>?_,rfl⟩⟩
         obtain ⟨h1_,h2_,h3_,h4_⟩:=h_
         have fe1_:(32 <= ix /\ ix < 48):=by rw [he1_] at h17;simpa using h17
         have fe3_:¬ (-16384 <= vv /\ vv <= 16384):=by rw [he3_] at h18;simpa using h18
         omega
       ·refine ae 5 [] λ _=>mL (e2_) 79 (λ h24=>?_) λ h24=>?_
        ·refine ae 5 [] λ _=>mL (e3_) 82 (λ h25=>?_) λ h25=>?_
         ·refine ae 4 [] λ _=>?_
          have fe1_:¬ (32 <= ix /\ ix < 48):=by rw [he1_] at h17;simpa using h17
          have fe2_:(af S 0 <= ix /\ ix < sizeOf S):=by rw [he2_] at h24;simpa using h24
          have fe3_:(-16384 <= vv /\ vv <= 16384):=by rw [he3_] at h25;simpa using h25
          have hfit_:j4 S n ct tr ix vv:=⟨⟨by omega,by omega⟩,by omega,by omega,by omega⟩
          have hch_:=Gl hV hfit_
          refine ae 8 (ow 2 16++[.own 1,.own 1]) λ _=>RN.ct (Hp:=[]) (Tp:=[]) [] [] (re S rs_ ds_ bp n cap (λ _=>(jj,0)) A rs xss ct tr ix vv (XW S (λ _=>(jj,0)) xss ct tr ix vv) (XN S (λ _=>(jj,0)) xss ct tr ix vv) _ hS.up.cl hM.up (by have h_:=hV.nb;omega) hrn hdn hsz (au hE) hr.up (hw.mono λ x hx=>au hx) (λ k hk=>by have h_:=(hrow k hk).1;have h2_:=hV.pl;omega) (by omega) rfl (λ i hi=>⟨hj,(hA _ (by omega)).mono λ x hx=>au hx⟩) (λ S3 h3 t ht=>Gg (J:=(λ _=>(jj,0))) (ct:=ct) (tr:=tr) (ix:=ix) hV (show n <= 900 by omega) hrow vv (.inr hch_) h3 ht)) ?_
          rintro _ ⟨x26,S27,G28⟩ ⟨rfl,he29,hX30⟩
          dsimp only at he29 hX30
          refine ae 5 [] λ _=>RN.ret [] [] [0] (v:=.tuple #[.iface 164 (vP x26 0),vI 0]) (H':=(ap [] [G28])) ?_
          exact ⟨(x26,S27,G28),rfl,.inl ⟨hfit_,rfl,he29,hX30⟩⟩
         ·refine ae 7 [] λ _=>RN.ret [] [] [] (v:=.tuple #[.nilIface,vI 1]) (H':=(ap [] [])) ?_
          refine ⟨(0,S,[]),by simp [ap],.inr ⟨λ h_=>?_,rfl⟩⟩
          obtain ⟨h1_,h2_,h3_,h4_⟩:=h_
          have fe1_:¬ (32 <= ix /\ ix < 48):=by rw [he1_] at h17;simpa using h17
          have fe2_:(af S 0 <= ix /\ ix < sizeOf S):=by rw [he2_] at h24;simpa using h24
          have fe3_:¬ (-16384 <= vv /\ vv <= 16384):=by rw [he3_] at h25;simpa using h25
          omega
        ·refine ae 12 [] λ _=>RN.ret [] [] [] (v:=.tuple #[.nilIface,vI 1]) (H':=(ap [] [])) ?_
         refine ⟨(0,S,[]),by simp [ap],.inr ⟨λ h_=>?_,rfl⟩⟩
         obtain ⟨h1_,h2_,h3_,h4_⟩:=h_
         have fe1_:¬ (32 <= ix /\ ix < 48):=by rw [he1_] at h17;simpa using h17
         have fe2_:¬ (af S 0 <= ix /\ ix < sizeOf S):=by rw [he2_] at h24;simpa using h24
         omega
theorem I9 (S:Setup) (rs_:List Bx) (ds_:List Dr) (bp n cap jj:Nat) (A:Option Addr) (rs:List Rw) (xss:List (List Inp)) (ct tr ix vv:Int) (F:HL) (hS:SetIn F S) (hM:MapIn F S rs_ ds_) (hV:SetV S) (hrn:S.rn <= 1000000) (hdn:S.dn <= 1000000) (hsz:(sizeOf S).toNat <= 1000000) (hv:fJ S rs_ ds_=0) (hj:jj < 5) (hA:∀ t,0 <= t -> AtOk F bp t (jj,0)) (hE:ck F) (hr:RowL fh 56 F A n rs) (hw:RwsIn F rs xss) (hrow:∀ i,i < n -> fN S.players (xss.getD i [])) (h9:n <= 9):Sp Tryz.prog 31 #[Setup.v S,vP bp 0,.slice A n cap,vI ct,vI tr,.agg #[vI ix,vI vv]] (ap [] []) F (λ u H'=>∃ x:Nat × Setup × HL,H'=ap [] [x.2.2] /\ ((j4 S n ct tr ix vv /\ u=.tuple #[.iface 164 (vP x.1 0),vI 0] /\ SetEq S x.2.1 /\ ExeH rs_ ds_ bp x.1 S x.2.1 ct tr ix vv (XW S (λ _=>(jj,0)) xss ct tr ix vv) (XN S (λ _=>(jj,0)) xss ct tr ix vv) n xss x.2.2) \/ (¬ j4 S n ct tr ix vv /\ u=.tuple #[.nilIface,vI 1]))):=I8 S rs_ ds_ bp n cap jj A rs xss ct tr ix vv F hS hM hV hrn hdn hsz hv hj hA hE hr hw hrow h9
open Go.Shelf
theorem zb (c0:Value) (F:HL):SpD Tryz.prog 76 #[c0] [] F (λ _ H'=>H'=[]):=by
 intro w hR
 refine callsDIn_of_wpSIn (F:=Wr none) (n:=0) Tryz.func76 rfl trivial λ c₀ cs hu=>?_
 have hrc:recoverD (c₀ :: cs)=none:=by simp [recoverD,hu]
 refine wpSIn_seq (wpSIn_region ?_)
 show wpOpsSIn _ _ _ _ _ [0,1] _ _ _
 simp only [wpOpsSIn,List.getElem?_toArray,List.getElem?_cons_zero,List.getElem?_cons_succ]
 simp [wpOpsSIn,go_sem,hrc,Tryz.ntmps76,Exit.thenS]
 refine wpSIn_cond (t:=false) (by simp [Act.eval,Array.replicate]) ?_
 refine wpSIn_of_wpIn rfl ?_
 refine wpIn_skip ?_
 simp [bodyPostS,results,Tryz.results76,hu]
 exact ⟨.returning,by cases c₀;simp at hu;subst hu;rfl,hu ▸ rfl,hR,Below.refl _ _⟩
theorem CF (S:Setup) (bp fp n cap p0 p1:Nat) (A:Option Addr) (r:Int) (F:HL) (hR0:RootOk F p0 n r) (hR1:RootOk F p1 n r):Sp Tryz.prog 118 #[vP fp 0,vI (n:Int)] [(fp,.lit (Setup.l S++[vP bp 0,.slice A n cap,.iface 164 (vP p0 0),.iface 164 (vP p1 0),vI 0,vI 0,vI 0,vI 0]) 184 (0,0))] F (λ u H'=>∃ _:Unit,H'=ap [(fp,.lit (Setup.l S++[vP bp 0,.slice A n cap,.iface 164 (vP p0 0),.iface 164 (vP p1 0),vI 0,vI 0,vI 0,vI 2]) 184 (0,0))] [] /\ u=.agg #[.int .u64 r,.int .u64 r]):=by
 refine Sp.run Tryz.func118 rfl mn (A:=[(fp,.lit (Setup.l S++[vP bp 0,.slice A n cap,.iface 164 (vP p0 0),.iface 164 (vP p1 0),vI 0,vI 0,vI 0,vI 0]) 184 (0,0))]) (Ts:=[]) rfl λ w0=>?_
 refine ae 21 [.own 2,.own 2] λ n1=>RN.rounds 3<|al 37 [.own 2,.nw,.own 2] [br (0+1)] λ _=>aj (hR0 _ (λ x hx=>au hx))<|al 47 [.own 0,.own 2,.nw,.own 2] [br ((0+1)+1)] λ _=>aj (hR1 _ (λ x hx=>au hx))<|ae 28 [.own 0,.own 0,.own 0,.own 1,.own 1] λ _=>RN.ret [.own 1,.own 1] [2] [] (v:=.agg #[.int .u64 r,.int .u64 r]) (H':=(ap [(fp,.lit (Setup.l S++[vP bp 0,.slice A n cap,.iface 164 (vP p0 0),.iface 164 (vP p1 0),vI 0,vI 0,vI 0,vI ((0+1)+1)]) 184 (0,0))] [])) ?_
 exact ⟨(),rfl,rfl⟩
theorem Ja (F:HL):Sp Tryz.prog 119 #[.bool true,.bool true] [] F (λ u H'=>u=vI (-1) /\ H'=[]):=by
 refine Sp.run Tryz.func119 rfl mn (A:=[]) (Ts:=[]) rfl λ w0=>?_
 refine ae 37 [] λ _=>?_
 exact RN.ret [] [] [] ⟨rfl,rfl⟩
theorem Jb (a b:Int) (F:HL):Sp Tryz.prog 120 #[.agg #[.int .u64 a,.int .u64 b]] [] F (λ u H'=>u=.bool (decide (a=b)) /\ H'=[]):=by
 refine Sp.run Tryz.func120 rfl mn (A:=[]) (Ts:=[]) rfl λ w0=>?_
 refine ae 16 [.own 0,.own 0] λ n1=>?_
 exact RN.ret [] [] [] ⟨rfl,rfl⟩
theorem Gn {a b:Bool} (ha:a=true) (hb:b=true) (F:HL):Sp Tryz.prog 119 #[.bool a,.bool b] [] F (λ u H'=>u=vI (-1) /\ H'=[]):=by
 subst ha;subst hb
 exact Ja F
theorem AG (r:Int) (F:HL):Sp Tryz.prog 120 #[.agg #[.int .u64 r,.int .u64 r]] [] F (λ u H'=>u=.bool true /\ H'=[]):=by
 have h:=Jb r r F
 rwa [decide_eq_true (rfl:r=r)] at h
theorem xe (S:Setup) (bp fp n cap p0 p1:Nat) (A:Option Addr) (r:Int) (F:HL) (hR0:RootOk F p0 n r) (hR1:RootOk F p1 n r):Sp Tryz.prog 118 #[vP fp 0,vI (n:Int)] (ap [(fp,.lit (Setup.l S++[vP bp 0,.slice A n cap,.iface 164 (vP p0 0),.iface 164 (vP p1 0),vI 0,vI 0,vI 0,vI 0]) 184 (0,0))] []) F (λ u H'=>∃ _:Unit,H'=ap [(fp,.lit (Setup.l S++[vP bp 0,.slice A n cap,.iface 164 (vP p0 0),.iface 164 (vP p1 0),vI 0,vI 0,vI 0,vI 2]) 184 (0,0))] [] /\ u=.agg #[.int .u64 r,.int .u64 r]):=CF S bp fp n cap p0 p1 A r F hR0 hR1
theorem zc (fp:Nat) (S:Setup) (bp n cap p0 p1:Nat) (A:Option Addr) (r:Int) (F:HL) (hS:SetCl F S) (hil:(aK S S.nb).length <= 1000000) (hR0:RootOk F p0 n r) (hR1:RootOk F p1 n r) (h0:n=0 -> r=oT (aK S S.nb)):Sp Tryz.prog 77 #[vP fp 0] [(fp,.lit (Setup.l S++[vP bp 0,.slice A n cap,.iface 164 (vP p0 0),.iface 164 (vP p1 0),vI 0,vI 0,vI 0,vI 0]) 184 (0,0))] F (λ u H'=>∃ _:Unit,H'=ap [(fp,.lit (Setup.l S++[vP bp 0,.slice A n cap,.iface 164 (vP p0 0),.iface 164 (vP p1 0),vI 0,vI 0,vI 0,vI 2]) 184 (0,0))] [] /\ u=vI (-1)):=by
 refine Sp.run Tryz.func77 rfl mn (A:=[(fp,.lit (Setup.l S++[vP bp 0,.slice A n cap,.iface 164 (vP p0 0),.iface 164 (vP p1 0),vI 0,vI 0,vI 0,vI 0]) 184 (0,0))]) (Ts:=[]) rfl λ w0=>?_
 refine ae 12 ([.own 0]++ow 1 16) λ n1=>RN.ct (Hp:=[]) (Tp:=[]) [] [] (AF hS.up rfl) ?_
 rintro _ q2 rfl
 refine aj (tj q2 (aK S S.nb).length (aK S S.nb) _ (aB 0) (Nat.le_refl _) hil)<|ae 4 [] λ _=>RN.draw [6,8] []<|ag [] [0,1,2,3,4,5] [.own 1,.own 1,.own 2]<|eh 6 7 ?_ ?_
 ·refine RDO.ct [] [2] [] (xe S bp fp n cap p0 p1 A r _ (hR0.mono λ x hx=>au hx) (hR1.mono λ x hx=>au hx)) ?_
  rintro _ _ rfl
  refine RD.one 7 (RDO.ev [] [] λ n3=>?_)
  refine RD.one 8 (RDO.ev [] [.own 0,.own 0] λ _=>?_)
  refine RD.fin<|ae 12 [.own 3,.own 1] λ _=>RN.em ((n:Int)=0) 25 (λ h4=>?_) λ h4=>?_
  ·refine ae 11 [.own 0,.own 0] λ _=>aj (Gn (decide_eq_true (h0 (by omega))) (decide_eq_true (h0 (by omega))) _)<|ae 3 [] λ _=>RN.ret [] [1] [] (v:=vI (-1)) (H':=(ap [(fp,.lit (Setup.l S++[vP bp 0,.slice A n cap,.iface 164 (vP p0 0),.iface 164 (vP p1 0),vI 0,vI 0,vI 0,vI 2]) 184 (0,0))] [])) ?_
   exact ⟨(),rfl,rfl⟩
  ·refine ae 7 [.own 0,.own 0] λ _=>aj (AG r _)<|ae 8 [] λ _=>RN.ret [] [1] [] (v:=vI (-1)) (H':=(ap [(fp,.lit (Setup.l S++[vP bp 0,.slice A n cap,.iface 164 (vP p0 0),.iface 164 (vP p1 0),vI 0,vI 0,vI 0,vI 2]) 184 (0,0))] [])) ?_
   exact ⟨(),rfl,rfl⟩
 ·refine RDO.ev [] [] λ n5=>RD.one 6 (RDO.ct [] [3] [] (xe S bp fp n cap p0 p1 A r _ (hR0.mono λ x hx=>au hx) (hR1.mono λ x hx=>au hx)) ?_)
  rintro _ _ rfl
  refine RD.one 8 (RDO.ev [] [.own 1,.own 1] λ _=>?_)
  refine RD.fin<|ae 12 [.own 3,.own 0] λ _=>RN.em ((n:Int)=0) 25 (λ h6=>?_) λ h6=>?_
  ·refine ae 11 [.own 1,.own 1] λ _=>aj (Gn (decide_eq_true (h0 (by omega))) (decide_eq_true (h0 (by omega))) _)<|ae 3 [] λ _=>RN.ret [] [0] [] (v:=vI (-1)) (H':=(ap [(fp,.lit (Setup.l S++[vP bp 0,.slice A n cap,.iface 164 (vP p0 0),.iface 164 (vP p1 0),vI 0,vI 0,vI 0,vI 2]) 184 (0,0))] [])) ?_
   exact ⟨(),rfl,rfl⟩
  ·refine ae 7 [.own 1,.own 1] λ _=>aj (AG r _)<|ae 8 [] λ _=>RN.ret [] [0] [] (v:=vI (-1)) (H':=(ap [(fp,.lit (Setup.l S++[vP bp 0,.slice A n cap,.iface 164 (vP p0 0),.iface 164 (vP p1 0),vI 0,vI 0,vI 0,vI 2]) 184 (0,0))] [])) ?_
   exact ⟨(),rfl,rfl⟩
theorem CG (fp:Nat) (S:Setup) (bp n cap p0 p1:Nat) (A:Option Addr) (r:Int) (F:HL) (hS:SetCl F S) (hil:(aK S S.nb).length <= 1000000) (hR0:RootOk F p0 n r) (hR1:RootOk F p1 n r) (h0:n=0 -> r=oT (aK S S.nb)):Sp Tryz.prog 77 #[vP fp 0] (ap [(fp,.lit (Setup.l S++[vP bp 0,.slice A n cap,.iface 164 (vP p0 0),.iface 164 (vP p1 0),vI 0,vI 0,vI 0,vI 0]) 184 (0,0))] []) F (λ u H'=>∃ _:Unit,H'=ap [(fp,.lit (Setup.l S++[vP bp 0,.slice A n cap,.iface 164 (vP p0 0),.iface 164 (vP p1 0),vI 0,vI 0,vI 0,vI 2]) 184 (0,0))] [] /\ u=vI (-1)):=zc fp S bp n cap p0 p1 A r F hS hil hR0 hR1 h0
theorem zd (c0:Value) (F:HL):SpD Tryz.prog 76 #[c0] (ap [] []) F (λ _ H'=>∃ _:Unit,H'=ap [] [] /\ True):=by
 exact (zb c0 F).mono λ u H' h=>⟨(),h,trivial⟩
theorem Gp (S:Setup) (bp n cap p0 p1:Nat) (A:Option Addr) (r:Int) (F:HL) (hS:SetCl F S) (hil:(aK S S.nb).length <= 1000000) (hR0:RootOk F p0 n r) (hR1:RootOk F p1 n r) (h0:n=0 -> r=oT (aK S S.nb)):Sp Tryz.prog 33 #[(Setup.v S),vP bp 0,.slice A n cap,.agg #[.iface 164 (vP p0 0),.iface 164 (vP p1 0)]] [] F (λ u H'=>∃ _:Unit,H'=ap [] [] /\ u=.agg #[vI (-1),vI 0,vI 0,vI 2]):=by
 refine Sp.runM Tryz.func33 rfl mn (A:=[]) (Ts:=[]) rfl λ w0=>?_
 refine ae 10 [] λ n1=>JN (g:=76) (args:=#[]) (cap:=#[vP (n1+2) 0])<|ae 17 (ow 2 16++[.own 1,.own 1]) λ n2=>RN.ct [0] [] (CG (n2+0) S bp n cap p0 p1 A r _ hS.up hil (hR0.mono λ x hx=>au hx) (hR1.mono λ x hx=>au hx) h0) ?_
 rintro _ _ rfl
 refine ae 15 (ow 0 5++[.own 1,.own 1,.own 1,.own 1]) λ _=>FC ?_
 refine JO (enters_of Tryz.func76 (by kernel_rfl) rfl) [] [] (zd _ _) ?_
 rintro _ _ _
 refine LV.ret [.own 1,.own 1,.own 1,.own 1] [] [] (v:=.agg #[vI (-1),vI 0,vI 0,vI 2]) (H':=(ap [] [])) ?_
 exact ⟨(),rfl,rfl⟩
theorem Gq (S:Setup) (bp n cap p0 p1:Nat) (A:Option Addr) (r:Int) (F:HL) (hS:SetCl F S) (hil:(aK S S.nb).length <= 1000000) (hR0:RootOk F p0 n r) (hR1:RootOk F p1 n r) (h0:n=0 -> r=oT (aK S S.nb)):Sp Tryz.prog 33 #[Setup.v S,vP bp 0,.slice A n cap,.agg #[.iface 164 (vP p0 0),.iface 164 (vP p1 0)]] (ap [] []) F (λ u H'=>∃ _:Unit,H'=ap [] [] /\ u=.agg #[vI (-1),vI 0,vI 0,vI 2]):=Gp S bp n cap p0 p1 A r F hS hil hR0 hR1 h0
def iJ (b:Nat):Setup:=⟨1,b,0,1,1,1,[⟨⟨5,[],none,0⟩,⟨0,0,0,0,0⟩,0,0⟩],⟨0,0,0,0⟩,none,0,0,none,0,0,0,⟨0,0⟩,0,0,0,1,0⟩
theorem Gr (b:Nat):fJ (iJ b) [] []=0:=by kernel_rfl
theorem Lz (b:Nat):SetV (iJ b):=⟨⟨show (1:Int) <= 1 by decide,show (1:Int) <= 3 by decide⟩,⟨show 1 <= 1 by decide,show 1 <= 5 by decide⟩,⟨show (1:Int) <= 1 by decide,show (1:Int) <= 3 by decide⟩,⟨show (0:Int) <= 0 by decide,show (0:Int) <= 60 by decide⟩⟩
theorem Jc {b:Nat} {F:HL} (hb:(b,.rows 9 1 (fF (iJ b).bods) 106 (0,0)) ∈ F):SetCl F (iJ b):=⟨⟨⟨show (0:Int) <= 1 by decide,show (1:Int) <= 1000000 by decide⟩,show 1 <= 1000000 by decide⟩,hb,show 0+1 <= 1 by decide,λ k hk=>by
 obtain rfl:k=0:=by have:k < 1:=hk;omega
 exact ⟨⟨.zero _,Nat.zero_le _⟩,.inl rfl⟩⟩
theorem Gs (b:Nat) (F:HL):MapIn F (iJ b) [] []:=⟨.zero _,.zero _⟩
theorem lG (b:Nat):sizeOf (iJ b)=60:=rfl
theorem Jd {b:Nat} {F:HL} (hb:(b,.rows 9 1 (fF (iJ b).bods) 106 (0,0)) ∈ F):SetIn F (iJ b):=⟨⟨⟨show (0:Int) <= 1 by decide,show (1:Int) <= 1000000 by decide⟩,show 1 <= 1000000 by decide⟩,hb,show 0+1 <= 1 by decide,λ k hk=>by
 obtain rfl:k=0:=by have:k < 1:=hk;omega
 exact .circle 5 none 0⟩
theorem Ng (F:HL) (hE:kU F):Sp Tryz.prog 35 #[.string ⟨#[]⟩] (ap [] []) F (λ u H'=>∃ x:Nat × HL,H'=ap [] [x.2] /\ (u=.tuple #[vP x.1 0,vI 0] /\ Book1 0 x.1 x.2)):=wY 0 F (by decide) hE
theorem kV (F:HL) (hE0:kU F) (hE1:ck F):Sp Tryz.prog 24 #[] [] F (λ u H'=>u=.bool true /\ H'=[]):=by
 refine Sp.run Tryz.func24 rfl mn (A:=[]) (Ts:=[]) rfl λ w0=>?_
 refine ae 16 (ow 0 16) λ n1=>RN.dn 1 (.rows 9 1 (fF (iJ (n1+0)).bods) 106 (0,0))<|ae 1 [] λ _=>RN.ct (Hp:=[]) (Tp:=[]) [] [] (Ng _ (au hE0)) ?_
 rintro _ ⟨b2,T3⟩ ⟨rfl,hB4⟩
 dsimp only at hB4
 refine ae 25 (ow 0 16) λ _=>RN.ct (Hp:=[]) (Tp:=[]) [] [] (I7 (iJ (n1+0)) [] [] b2 0 0 0 none [] [] _ (Jd (aB 1)) (Gs _ _) (Lz _) (show 0 <= 1000000 by decide) (show 0 <= 1000000 by decide) (by rw [lG];decide) (Gr _) (by decide) (λ t ht=>hB4.at (aA 0) (by decide) t ht) (au hE1) (.zero _) ⟨rfl,λ k hk=>absurd hk (Nat.not_lt_zero _)⟩ (λ i hi=>absurd hi (Nat.not_lt_zero _)) (by decide)) ?_
 rintro _ ⟨x5,S6,G7⟩ ⟨rfl,he8,hX9⟩
 dsimp only at he8 hX9
 refine ae 28 (ow 0 16) λ _=>RN.ct (Hp:=[]) (Tp:=[]) [] [] (Gq (iJ (n1+0)) b2 0 0 x5 x5 none (oT ((XW (iJ (n1+0)) (λ _=>(0,0)) [] (-1) 0 0 0) 0)) _ (Jc (aB 1)) (show (aK (iJ (n1+0)) 1).length <= 1000000 by rw [fk,lG];decide) (hX9.root (t:=0) (aA 0) (Nat.zero_le _) (show (aK (iJ (n1+0)) 1).length <= 1000000 by rw [fk,lG];decide)) (hX9.root (t:=0) (aA 0) (Nat.zero_le _) (show (aK (iJ (n1+0)) 1).length <= 1000000 by rw [fk,lG];decide)) (λ _=>rfl)) ?_
 rintro _ _ rfl
 refine ae 17 (ow 0 6) λ n10=>?_
 exact RN.ret [] [] [] ⟨rfl,rfl⟩
end Go.Proofs.YtghjbimijeinfaaGreatDoor
