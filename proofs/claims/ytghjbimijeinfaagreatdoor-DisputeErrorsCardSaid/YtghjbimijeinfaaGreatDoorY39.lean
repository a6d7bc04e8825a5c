import Derived.Test.YtghjbimijeinfaaGreatDoorY37
import Derived.Test.YtghjbimijeinfaaGreatDoorY38
import Derived.Test.YtghjbimijeinfaaGreatDoorRows
import Derived.Test.YtghjbimijeinfaaGreatDoorChecked
import Derived.Test.YtghjbimijeinfaaGreatDoorY17
import Derived.ProofKit
import Derived.OpenShut
import Derived.Carry
import Derived.Lay
import Derived.LaidHandle
import Derived.ChangeSlices
import Derived.Test.YtghjbimijeinfaaGreatDoorY33
import Derived.Lib.LaidTab
import Derived.MakeChecks
import Derived.Lib.SmallJoins
import Derived.Test.YtghjbimijeinfaaGreatDoorTie
import Derived.Test.YtghjbimijeinfaaGreatDoorCards
import Derived.SevenTiedAt
import Derived.JoinedOf
import Derived.KernelRfl
set_option maxHeartbeats 4000000
set_option maxRecDepth 100000
set_option linter.unusedSimpArgs false
set_option linter.unusedVariables false
namespace Go.Proofs.YtghjbimijeinfaaGreatDoor
open Go.RowKit
theorem GH {F:HL} {p:Rw} {xs:List Inp} (h:RwIn F xs p):∃ b o N full c,p=⟨some ⟨b,o * 3,none⟩,xs.length,c⟩ /\ (b,.rows 3 N (j9 full) 151 (0,0)) ∈ F /\ o+xs.length <= N /\ (∀ i,i < xs.length -> full.getD (o+i) dI=xs.getD i dI) /\ xs.length <= c:=by
 cases h with
 | mk b o N full c hI hir hx hc=>exact ⟨b,o,N,full,c,rfl,hI,hir,hx,hc⟩
theorem GI {S:Setup} {bp gb mb k:Nat} {M:MemS} {T U F:HL} (hM:MemH mb M k T) (hp:1 <= S.players):Sp Tryz.prog 19 #[vP gb 0,.slice none 0 0] (ap [(gb,.lit (ez S bp mb) 115 (0,0))] [T,U]) F (λ u H'=>∃ _:Unit,H'=ap [(gb,.lit (ez S bp mb) 115 (0,0))] [T,U] /\ u=.tuple #[.slice none 0 0,vI 0,vI 17]):=by
 refine (td 17 S bp gb mb 0 0 k none [] M T U F (.zero _) (by decide) hM ?_ (by decide)).mono λ u H' h=>⟨(),h.1,h.2⟩
 unfold cO
 rw [if_neg (by show ¬ ((0:Nat):Int)=S.players;omega)]
theorem GJ (S:Setup) (rs_:List Bx) (ds_:List Dr) (bp n ny cap:Nat) (J:Nat -> Nat × Int) (A:Option Addr) (rs:List Rw) (xss:List (List Inp)) (F:HL) (hS:SetIn F S) (hM:MapIn F S rs_ ds_) (h1:1 <= S.nb) (hpl:1 <= S.players) (hrn:S.rn <= 1000000) (hdn:S.dn <= 1000000) (hsz:(sizeOf S).toNat <= 1000000) (hv:fJ S rs_ ds_=0) (hE:ck F) (hr:RowL fh 56 F A n rs) (hw:∀ k,k < ny -> RwIn F (xss.getD k []) (rs.getD k fh.dflt)) (hlast:rs.getD ny fh.dflt=⟨none,0,0⟩) (hny:n=ny+1) (hxl:∀ k,k < n -> (xss.getD k []).length <= 1000000) (h9:n <= 900) (hP:∀ S2,SetEq S S2 -> ∀ i,i < ny -> (∀ k,k < i -> TkOk S2 (J k) (xss.getD k []) (gP (rG S2 J xss) ⟨aK S S.nb,[],0⟩ k)) -> TkOk S2 (J i) (xss.getD i []) (gP (rG S2 J xss) ⟨aK S S.nb,[],0⟩ i) /\ (J i).1 < 5 /\ AtOk F bp ((gP (rG S2 J xss) ⟨aK S S.nb,[],0⟩ i).get 0) (J i)):Sp Tryz.prog 66 #[(Setup.v S),vP bp 0,.slice A n cap] [] F (λ u H'=>∃ _:Unit,H'=ap [] [] /\ u=.tuple #[.slice none 0 0,.slice none 0 0,vI 17]):=by
 refine Sp.run Tryz.func66 rfl mn (A:=[]) (Ts:=[]) rfl λ w0=>?_
 refine ae 12 (ow 0 16) λ n1=>RN.ct (Hp:=[]) (Tp:=[]) [] [] (vZ S rs_ ds_ bp _ hS.up.cl hM.up h1 hrn hdn hsz hv 99020000 (by decide)) ?_
 rintro _ ⟨g2,S3,T4⟩ ⟨rfl,he5,hG6⟩
 dsimp only at he5 hG6
 obtain ⟨mb,Tm,U,hMm,hU,eG⟩:=hG6.op
 refine Dg 0 [(g2,.lit (ez S3 bp mb) 115 (0,0))] [Tm,U] eG<|ae 31 [] λ _=>RN.nt<|RN.loop (σ:=Nat × Option Addr × Nat × MemS × HL × HL) (λ ⟨i_,A_,c_,N_,T_,E_⟩=>⟨[(9,vP g2 0),(11,.slice A_ ((oS (rG S3 J xss) ⟨aK S S.nb,[],0⟩ i_).length) c_),(26,.slice A n cap),(27,vI (n:Int)),(28,vI (i_:Int))],[(g2,.lit (ez S3 bp mb) 115 (0,0)),((n1+0),.lit (Setup.l S) 31 (0,0))],[T_,E_,U],i_ <= ny /\ N_.cs=(gP (rG S3 J xss) ⟨aK S S.nb,[],0⟩ i_).cs /\ MemH mb N_ 99020000 T_ /\ (0 <= N_.base /\ N_.base <= 1000000 * (i_:Int)) /\ SlIs oY 53 (oS (rG S3 J xss) ⟨aK S S.nb,[],0⟩ i_) A_ c_ E_ /\ (∀ k,k < i_ -> TkOk S3 (J k) (xss.getD k []) (gP (rG S3 J xss) ⟨aK S S.nb,[],0⟩ k)),n - i_⟩) (0,none,0,⟨aK S S.nb,[],0⟩,Tm,[]) [0,1] [1,0,2] (⟨Nat.zero_le _,rfl,hMm,⟨Int.le_refl 0,by show (0:Int) <= _;omega⟩,SlIs.nil _ _,λ k hk=>absurd hk (Nat.not_lt_zero _)⟩) ?_
 rintro ⟨i_,A_,c_,N_,T_,E_⟩ ⟨hi_,hcs_,hT_,hbs0_,hs_,hok_⟩ mt8
 refine ae 6 [] λ _=>RN.em ((i_:Int) < (n:Int)) 29 (λ h9=>?_) λ h9=>?_
 ·refine ae 6 [] λ _=>?_
  by_cases hl_:i_=ny
  ·refine ae 1 [] λ _=>?_
   obtain ⟨qx10,ox10,Nx10,fx10,fzx10,hAx10,hqx10,hox10,hgx10⟩:=hr.at (k:=i_) (by omega)
   refine bn 26 (congrArg (λ v_=>(.slice v_ n cap:Value)) hAx10)<|RN.ro (λ _=>(mc hqx10 mn))<|al 2 [.ix i_,.rorow 0 (ox10+i_) 0] [(ox10 * 1+i_ * 1)=(ox10+i_) * 1+0 /\ (ox10+i_) < Nx10,(i_:Int)=((i_:Nat):Int) /\ i_ < n] λ _=>bn 31 (congrArg (λ v_=>(.slice v_.A v_.n v_.c:Value)) hgx10)<|bn 31 (congrArg (λ v_:Rw=>Value.slice v_.A v_.n v_.c) (show rs.getD i_ fh.dflt=⟨none,0,0⟩ by rw [hl_];exact hlast))<|ae 7 [] λ _=>RN.ct [0] [0,2] (GI (gb:=g2) (mb:=mb) (bp:=bp) (U:=U) (S:=S3) hT_ (by rw [he5.pl];exact hpl)) ?_
   rintro _ _ rfl
   refine ae 25 [] λ _=>RN.ret [] [] [] (v:=.tuple #[.slice none 0 0,.slice none 0 0,vI 17]) (H':=(ap [] [])) ?_
   exact ⟨(),by simp [ap],rfl⟩
  ·refine ae 1 [] λ _=>?_
   obtain ⟨qx11,ox11,Nx11,fx11,fzx11,hAx11,hqx11,hox11,hgx11⟩:=hr.at (k:=i_) (by omega)
   refine bn 26 (congrArg (λ v_=>(.slice v_ n cap:Value)) hAx11)<|RN.ro (λ _=>(mc hqx11 mn))<|al 2 [.ix i_,.rorow 0 (ox11+i_) 0] [(ox11 * 1+i_ * 1)=(ox11+i_) * 1+0 /\ (ox11+i_) < Nx11,(i_:Int)=((i_:Nat):Int) /\ i_ < n] λ _=>bn 31 (congrArg (λ v_=>(.slice v_.A v_.n v_.c:Value)) hgx11) ?_
   obtain ⟨bw12,ow12,Nw12,fw12,cw12,ew12,hIw12,hiw12,hxw12,hcw12⟩:=GH (hw i_ (by omega))
   refine bn 31 (congrArg (λ v_:Rw=>Value.slice v_.A v_.n v_.c) ew12)<|ae 7 [] λ _=>?_
   have hPi_:=hP S3 he5 i_ (by omega) hok_
   refine RN.ct [0] [0,2] (tg (gb:=g2) (mb:=mb) (c:=cw12) (k:=99000000) (rs:=rs_) (ds:=ds_) (S:=S3) ((gP (rG S3 J xss) ⟨aK S S.nb,[],0⟩ i_).get 0) (hT_.weak (by decide)) hU (oh hcs_ 0) hPi_.2.1 ((show AtOk F bp (N_.get 0) (J i_) by rw [oh hcs_];exact hPi_.2.2).mono λ x hx=>au hx) (au hE) (au hIw12) hiw12 (by have:=hxl i_ (by omega);omega) hxw12 (.inl (hPi_.1.cs hcs_.symm))) ?_
   rintro _ ⟨⟨A13,c14,n15⟩,T16,E17⟩ (⟨hk18,hM19,hs20,rfl⟩ | ⟨hk18,hM19,rfl⟩)
   ·dsimp only at hM19 hs20
    refine ae 23 [] λ _=>RN.appU (c':=c14) (tx:=57) pY (oS (rG S3 J xss) ⟨aK S S.nb,[],0⟩ i_) (rB (fo S3 (J i_) (xss.getD i_ [])) N_) 3 rfl hs_ (by have h1_:=uq (rG S3 J xss) ⟨aK S S.nb,[],0⟩ i_;have h2_:=uo (fo S3 (J i_) (xss.getD i_ [])) N_;omega) (hs20.src pY (by decide) (aA 2)) ?_
    rintro A21 c22 T23 ⟨hs24,hz25⟩
    refine ae 3 [] λ _=>RN.draw [9] []<|ag [] [0,4,1,5,2,6,3,7] [.own 0,.own 0] ?_
    have hbs_:0 <= (lJ (fo S3 (J i_) (xss.getD i_ [])) N_).base /\ (lJ (fo S3 (J i_) (xss.getD i_ [])) N_).base <= 1000000000:=by rw [nj];omega
    refine ar [] 8 (λ X_=>(FJ hM19 (aR 1) hbs_))<|RD.one 9 (RDO.ct [] [] [1] (w9 (k2:=99020000) _ hM19 hbs_ (by decide)) ?_)
    rintro _ T26 ⟨rfl,hM27⟩
    refine RD.fin<|al 6 [.nw] [br ((i_:Int)+1)] λ _=>bn 26 (congrArg (λ v_=>(.slice v_ n cap:Value)) hAx11.symm)<|bn 11 (congrArg (λ v_=>(.slice A21 v_ c22:Value)) (show (oS (rG S3 J xss) ⟨aK S S.nb,[],0⟩ i_).length+(rB (fo S3 (J i_) (xss.getD i_ [])) N_).length=(oS (rG S3 J xss) ⟨aK S S.nb,[],0⟩ (i_+1)).length by rw [oS,List.length_append,tZ _ hcs_])) ?_
    refine mt8 (i_+1,A21,c22,⟨(lJ (fo S3 (J i_) (xss.getD i_ [])) N_).cs,[],(lJ (fo S3 (J i_) (xss.getD i_ [])) N_).base+((lJ (fo S3 (J i_) (xss.getD i_ [])) N_).lg.length:Int)⟩,T26,T23) [0,1] [0,1,2] ?_
    try dsimp only
    have hl2_:=hM19.len2
    refine ⟨⟨by omega,?_,hM27,⟨?_,?_⟩,?_,?_⟩,by omega⟩
    ·show (lJ (fo S3 (J i_) (xss.getD i_ [])) N_).cs=_;rw [gP];exact D9 _ hcs_
    ·show 0 <= (lJ (fo S3 (J i_) (xss.getD i_ [])) N_).base+_;omega
    ·show (lJ (fo S3 (J i_) (xss.getD i_ [])) N_).base+_ <= _;have hb2_:=nj (fo S3 (J i_) (xss.getD i_ [])) N_;omega
    ·rw [oS,<- tZ _ hcs_];exact hs24
    ·intro k_ hk_;rcases Nat.lt_or_ge k_ i_ with h_ | h_
     ·exact hok_ k_ h_
     ·obtain rfl:k_=i_:=by omega
      exact hk18.cs hcs_
   ·dsimp only at hM19
    refine ae 16 [] λ _=>cV 40 (nf (decide_eq_false hk18))<|ae 9 [] λ _=>RN.ret [] [] [] (v:=.tuple #[.slice none 0 0,.slice none 0 0,vI (cO S3.players (xss.getD i_ []).length (xss.getD i_ []) ((gP (rG S3 J xss) ⟨aK S S.nb,[],0⟩ i_).get 0))]) (H':=(ap [] [])) ?_
    exact absurd hPi_.1.ok hk18
 ·(exfalso;omega)
theorem AO (S:Setup) (rs_:List Bx) (ds_:List Dr) (bp ny cap jj:Nat) (A:Option Addr) (rs:List Rw) (xss:List (List Inp)) (F:HL) (hS:SetIn F S) (hM:MapIn F S rs_ ds_) (hV:SetV S) (hrn:S.rn <= 1000000) (hdn:S.dn <= 1000000) (hsz:(sizeOf S).toNat <= 1000000) (hv:fJ S rs_ ds_=0) (hj:jj < 5) (hA:∀ t,0 <= t -> AtOk F bp t (jj,0)) (hE:ck F) (hr:RowL fh 56 F A (ny+1) rs) (hw:∀ k,k < ny -> RwIn F (xss.getD k []) (rs.getD k fh.dflt)) (hlast:rs.getD ny fh.dflt=⟨none,0,0⟩) (hxl:xss.length <= ny) (hrow:∀ i,i < ny -> fN S.players (xss.getD i [])) (h9:ny <= 8):Sp Tryz.prog 66 #[Setup.v S,vP bp 0,.slice A (ny+1) cap] (ap [] []) F (λ u H'=>∃ _:Unit,H'=ap [] [] /\ u=.tuple #[.slice none 0 0,.slice none 0 0,vI 17]):=by
 have hp:=hV.pl
 have hnb:=hV.nb
 refine GJ S rs_ ds_ bp (ny+1) ny cap (λ _=>(jj,0)) A rs xss F hS hM (by omega) (by omega) hrn hdn hsz hv hE hr hw hlast rfl (λ k hk=>?_) (by omega) λ S2 h2 i hi _=>?_
 ·rcases Nat.lt_or_ge k ny with h | h
  ·have:=(hrow k h).1;omega
  ·rw [List.getD_eq_getElem?_getD,List.getElem?_eq_none (by omega)]
   exact Nat.zero_le _
 ·have ht:=JV (h2.setV hV) (yS hV h2) (xss:=xss) (λ _=>(jj,0)) ny (by omega) (λ i hi=>by rw [h2.pl];exact hrow i hi) i hi
  exact ⟨ht,hj,hA _ ht.now⟩
theorem GK (S:Setup) (rs_:List Bx) (ds_:List Dr) (bp ny cap jj:Nat) (A:Option Addr) (rs:List Rw) (xss:List (List Inp)) (F:HL) (hS:SetIn F S) (hM:MapIn F S rs_ ds_) (hV:SetV S) (hrn:S.rn <= 1000000) (hdn:S.dn <= 1000000) (hsz:(sizeOf S).toNat <= 1000000) (hv:fJ S rs_ ds_=0) (hj:jj < 5) (hA:∀ t,0 <= t -> AtOk F bp t (jj,0)) (hE:ck F) (hr:RowL fh 56 F A (ny+1) rs) (hw:∀ k,k < ny -> RwIn F (xss.getD k []) (rs.getD k fh.dflt)) (hlast:rs.getD ny fh.dflt=⟨none,0,0⟩) (hxl:xss.length <= ny) (hrow:∀ i,i < ny -> fN S.players (xss.getD i [])) (h9:ny <= 8):Sp Tryz.prog 25 #[(Setup.v S),vP bp 0,.slice A (ny+1) cap] [] F (λ u H'=>∃ _:Unit,H'=ap [] [] /\ u=.tuple #[.nilIface,vI 17]):=by
 refine Sp.run Tryz.func25 rfl mn (A:=[]) (Ts:=[]) rfl λ w0=>?_
 refine ae 13 (ow 0 16) λ n1=>RN.ct (Hp:=[]) (Tp:=[]) [] [] (AO S rs_ ds_ bp ny cap jj A rs xss _ hS.up hM.up hV hrn hdn hsz hv hj (λ t ht=>(hA t ht).mono λ x hx=>au hx) (au hE) hr.up (λ k hk=>(hw k hk).mono λ x hx=>au hx) hlast hxl hrow h9) ?_
 rintro _ _ rfl
 refine ae 23 [] λ _=>RN.ret [] [] [] (v:=.tuple #[.nilIface,vI 17]) (H':=(ap [] [])) ?_
 exact ⟨(),rfl,rfl⟩
theorem GL (S:Setup) (rs_:List Bx) (ds_:List Dr) (bp ny cap jj:Nat) (A:Option Addr) (rs:List Rw) (xss:List (List Inp)) (F:HL) (hS:SetIn F S) (hM:MapIn F S rs_ ds_) (hV:SetV S) (hrn:S.rn <= 1000000) (hdn:S.dn <= 1000000) (hsz:(sizeOf S).toNat <= 1000000) (hv:fJ S rs_ ds_=0) (hj:jj < 5) (hA:∀ t,0 <= t -> AtOk F bp t (jj,0)) (hE:ck F) (hr:RowL fh 56 F A (ny+1) rs) (hw:∀ k,k < ny -> RwIn F (xss.getD k []) (rs.getD k fh.dflt)) (hlast:rs.getD ny fh.dflt=⟨none,0,0⟩) (hxl:xss.length <= ny) (hrow:∀ i,i < ny -> fN S.players (xss.getD i [])) (h9:ny <= 8):Sp Tryz.prog 25 #[Setup.v S,vP bp 0,.slice A (ny+1) cap] (ap [] []) F (λ u H'=>∃ _:Unit,H'=ap [] [] /\ u=.tuple #[.nilIface,vI 17]):=GK S rs_ ds_ bp ny cap jj A rs xss F hS hM hV hrn hdn hsz hv hj hA hE hr hw hlast hxl hrow h9
theorem GM (S:Setup) (rs_:List Bx) (ds_:List Dr) (bp ny cap jj:Nat) (A:Option Addr) (rs:List Rw) (xss:List (List Inp)) (F:HL) (hS:SetIn F S) (hM:MapIn F S rs_ ds_) (hV:SetV S) (hrn:S.rn <= 1000000) (hdn:S.dn <= 1000000) (hsz:(sizeOf S).toNat <= 1000000) (hv:fJ S rs_ ds_=0) (hj:jj < 5) (hA:∀ t,0 <= t -> AtOk F bp t (jj,0)) (hE:ck F) (hr:RowL fh 56 F A (ny+1) rs) (hw:∀ k,k < ny -> RwIn F (xss.getD k []) (rs.getD k fh.dflt)) (hlast:rs.getD ny fh.dflt=⟨none,0,0⟩) (hxl:xss.length <= ny) (hrow:∀ i,i < ny -> fN S.players (xss.getD i [])) (h9:ny <= 8) (ct tr ix vv:Int):Sp Tryz.prog 31 #[(Setup.v S),vP bp 0,.slice A (ny+1) cap,vI ct,vI tr,.agg #[vI ix,vI vv]] [] F (λ u H'=>∃ _:Unit,H'=ap [] [] /\ u=.tuple #[.nilIface,vI 17]):=by
 refine Sp.run Tryz.func31 rfl mn (A:=[]) (Ts:=[]) rfl λ w0=>?_
 refine ae 14 (ow 1 16) λ n1=>RN.ct (Hp:=[]) (Tp:=[]) [] [] (AO S rs_ ds_ bp ny cap jj A rs xss _ hS.up hM.up hV hrn hdn hsz hv hj (λ t ht=>(hA t ht).mono λ x hx=>au hx) (au hE) hr.up (λ k hk=>(hw k hk).mono λ x hx=>au hx) hlast hxl hrow h9) ?_
 rintro _ _ rfl
 refine ae 23 [] λ _=>RN.ret [] [] [] (v:=.tuple #[.nilIface,vI 17]) (H':=(ap [] [])) ?_
 exact ⟨(),rfl,rfl⟩
theorem GN (S:Setup) (rs_:List Bx) (ds_:List Dr) (bp ny cap jj:Nat) (A:Option Addr) (rs:List Rw) (xss:List (List Inp)) (F:HL) (hS:SetIn F S) (hM:MapIn F S rs_ ds_) (hV:SetV S) (hrn:S.rn <= 1000000) (hdn:S.dn <= 1000000) (hsz:(sizeOf S).toNat <= 1000000) (hv:fJ S rs_ ds_=0) (hj:jj < 5) (hA:∀ t,0 <= t -> AtOk F bp t (jj,0)) (hE:ck F) (hr:RowL fh 56 F A (ny+1) rs) (hw:∀ k,k < ny -> RwIn F (xss.getD k []) (rs.getD k fh.dflt)) (hlast:rs.getD ny fh.dflt=⟨none,0,0⟩) (hxl:xss.length <= ny) (hrow:∀ i,i < ny -> fN S.players (xss.getD i [])) (h9:ny <= 8) (ct tr ix vv:Int):Sp Tryz.prog 31 #[Setup.v S,vP bp 0,.slice A (ny+1) cap,vI ct,vI tr,.agg #[vI ix,vI vv]] (ap [] []) F (λ u H'=>∃ _:Unit,H'=ap [] [] /\ u=.tuple #[.nilIface,vI 17]):=GM S rs_ ds_ bp ny cap jj A rs xss F hS hM hV hrn hdn hsz hv hj hA hE hr hw hlast hxl hrow h9 ct tr ix vv
instance (S:Setup) (n:Nat) (ct tr ix vv:Int):Decidable (j4 S n ct tr ix vv):=inferInstanceAs (Decidable (_ /\ _ /\ _ /\ _))
theorem zi (A0 AI:Option Addr) (n0 c0 nI cI:Nat) (xs xI:List Int) (i1 i3 b0 b1 b2 vv:Int) (sh:Bool) (F:HL) (hE0:kU F) (hE1:ck F) (hl0:ArgD F A0 n0 xs) (hn0:n0 <= 9223372036854775807) (hl2:ArgD F AI nI xI) (hn2:nI <= 9223372036854775807) (hi1:qa i1) (hi3:qa i3):Sp Tryz.prog 5 #[.slice A0 n0 c0,vI i1,.slice AI nI cI,vI i3,.agg #[vI b0,vI b1,vI b2],vI vv,.bool sh] [] F (λ u H'=>u=.bool true /\ H'=[]):=by
 refine Sp.run Tryz.func5 rfl mn (A:=[]) (Ts:=[]) rfl λ w0=>?_
 refine ae 12 [] λ n1=>?_
 obtain ⟨cnt,hcnt,hcl_⟩:∃ cnt:Nat,aE (i3) 4=(cnt:Int) /\ cnt <= 3:=by have h_:=eY (n:=i3) hi3 4 (by decide);exact ⟨(aE (i3) 4).toNat,by omega,by omega⟩
 refine RN.ct (Hp:=[]) (Tp:=[]) [] [] (LF A0 AI n0 c0 nI cI cnt xs xI i1 i3 _ (au hE0) hl0.up hn0 hl2.up hn2 hi1 hcnt hcl_) ?_
 rintro _ ⟨⟨S,nn⟩,⟨bp_,qs_,AR,cR,rs⟩,TS,TB,ER,RT⟩ ⟨rfl,hq4_,hG,hmt_,hB_,hs_,hrl_,hT_⟩
 dsimp only at hq4_ hG hmt_ hB_ hs_ hrl_ hT_
 obtain ⟨qA_,qn_,qc_,qa_,qb_,qd_,rfl⟩:=AM hq4_
 have hF:=FR hl0 hG
 have hpl:=hF.pl
 have hrn:=hF.rn
 have hdn:=hF.dn
 have hV_:=Oq hmt_
 have hsz_:=Jg hmt_
 have hval_:=LD (nn:=nn) hmt_ hF.val
 have hil_:=fk (S.mt nn) (S.mt nn).nb
 have hj:(aE i1 5).toNat < 5:=by have h_:=eY (n:=i1) hi1 5 (by decide);omega
 generalize (aE i1 5).toNat=jj at *
 have hgr:∀ i,i < cnt -> fN (S.mt nn).players ((dW S.players xI cnt).getD i []):=λ i hi=>hl2.ex.elim λ _ h_=>qW h_ (by show 0 <= S.players;omega) cnt i hi
 have hN_:SetN (S.mt nn):=⟨⟨by show 0 <= S.players;omega,by show S.players <= _;omega⟩,by have h_:=hmt_.nb;show nn <= _;omega⟩
 refine ae 27 (ow 1 16++[.own 0,.own 0,.own 0,.own 0]) λ n2=>om (σ:=Bool) (λ f_=>⟨[(5,vI vv),(11,vP (n1+0) 0),(15,vP (n2+0) 0),(16,vP bp_ 0),(18,.slice AR cnt cR),(45,.bool f_)],[((n2+1),.lit [.slice qA_ qn_ qc_,vI qa_,vI qb_,vI qd_] 47 (0,0)),((n2+0),.lit (Setup.l (S.mt nn)) 31 (0,0)),(S.bb,.rows 9 S.bR (fF S.bods) 106 (0,0)),((n1+0),.lit [vI b0,vI b1,vI b2] 45 (0,0))],[TS,TB,ER,RT],f_=true -> 1 <= cnt,0⟩) ?_ ?_
 ·intro mt3
  refine ae 3 [] λ _=>fT (sh) 41 (λ h4=>?_) λ h4=>?_
  ·refine ae 5 [] λ _=>?_
   refine mt3 (decide ((cnt:Int) > 0)) [0,1,2,3] [0,1,2,3] ?_
   try dsimp only
   exact λ h_=>by have h2_:=of_decide_eq_true h_;omega
  ·refine ae 5 [] λ _=>?_
   refine mt3 false [0,1,2,3] [0,1,2,3] ?_
   try dsimp only
   exact λ h_=>absurd h_ (by decide)
 ·rintro f_ hf_
  refine ae 1 [] λ _=>fT (f_) 45 (λ h5=>?_) λ h5=>?_
  ·refine ae 2 [] λ _=>?_
   obtain ⟨kk,rfl⟩:∃ kk,cnt=kk+1:=⟨cnt - 1,by have h_:=hf_ h5;omega⟩
   obtain ⟨bR,oR,fR,rfl,rfl,hfl,hrc,hfd⟩:=hs_.resolve_left (λ h_=>by have h1_:=h_.2.2.1;subst h1_;simp at hrl_)
   refine uV 2 (x:=(bR,.rows 1 (oR+cR) (cu fh fR) 56 (0,0)))<|al 10 [.nw,.ix kk,.row 0 (oR+kk) 0] [(oR * 1+kk * 1)=(oR+kk) * 1+0 /\ (oR+kk) < (oR+cR),(((kk+1):Nat):Int) - 1=((kk:Nat):Int) /\ kk < (kk+1),br ((((kk+1):Nat):Int) - 1)] λ _=>eI 0 (congrArg (λ v_=>(.rows 1 (oR+cR) v_ 56 (0,0):Blk)) (show (dN (cu fh fR) (oR+kk) 0 (.slice none 0 0))=(cu fh (fR.set (oR+kk) (⟨none,0,0⟩:Rw))) from (M8 (by omega) (⟨none,0,0⟩:Rw))))<|ae 4 (ow 2 16) λ _=>RN.ct (Hp:=[]) (Tp:=[]) [] [] (GL (S.mt nn) rD (ko (kv xs 3 % 3).toNat) bp_ kk cR jj (some ⟨bR,oR * 1,none⟩) (rs.set kk (⟨none,0,0⟩:Rw)) (dW S.players xI kk) _ (GG hmt_ (hG.sin _ (aB 3) (aA 0))) (zh (hG.maps.2 _ (aA 0))) hV_ (by show S.rn <= _;omega) (by show S.dn <= _;omega) (by omega) hval_ hj (λ t ht=>hB_.at (aA 1) hj t ht) (au hE1) (xd (aB 0) hfl (by omega) hfd (by omega) hrl_) (λ k hk=>by rw [b6 (by omega),show (dW S.players xI kk).getD k []=(dW S.players xI (kk+1)).getD k [] by rw [fe hk,fe (by omega)]];exact (hT_ _ (aA 2)).row k (by omega)) (cr (by omega)) (by rw [tf];exact Nat.le_refl _) (λ i hi=>by rw [show (dW S.players xI kk).getD i []=(dW S.players xI (kk+1)).getD i [] by rw [fe hi,fe (by omega)]];exact hgr i (by omega)) (by omega)) ?_
   rintro _ _ rfl
   refine ae 20 (ow 2 16++[.own 4,.own 4,.own 4]) λ _=>RN.ct (Hp:=[]) (Tp:=[]) [] [] (GN (S.mt nn) rD (ko (kv xs 3 % 3).toNat) bp_ kk cR jj (some ⟨bR,oR * 1,none⟩) (rs.set kk (⟨none,0,0⟩:Rw)) (dW S.players xI kk) _ (GG hmt_ (hG.sin _ (aB 3) (aA 0))) (zh (hG.maps.2 _ (aA 0))) hV_ (by show S.rn <= _;omega) (by show S.dn <= _;omega) (by omega) hval_ hj (λ t ht=>hB_.at (aA 1) hj t ht) (au hE1) (xd (aB 0) hfl (by omega) hfd (by omega) hrl_) (λ k hk=>by rw [b6 (by omega),show (dW S.players xI kk).getD k []=(dW S.players xI (kk+1)).getD k [] by rw [fe hk,fe (by omega)]];exact (hT_ _ (aA 2)).row k (by omega)) (cr (by omega)) (by rw [tf];exact Nat.le_refl _) (λ i hi=>by rw [show (dW S.players xI kk).getD i []=(dW S.players xI (kk+1)).getD i [] by rw [fe hi,fe (by omega)]];exact hgr i (by omega)) (by omega) b0 b1 b2 vv) ?_
   rintro _ _ rfl
   refine ae 16 [] λ _=>aj (kV _ (au hE0) (au hE1))<|ae 4 [] λ _=>?_
   exact RN.ret [] [] [] ⟨rfl,rfl⟩
  ·refine ae 4 [] λ _=>om (σ:=Bool) (λ e_=>⟨[(5,vI vv),(11,vP (n1+0) 0),(15,vP (n2+0) 0),(16,vP bp_ 0),(18,.slice AR cnt cR),(24,.bool e_)],[((n2+1),.lit [.slice qA_ qn_ qc_,vI qa_,vI qb_,vI qd_] 47 (0,0)),((n2+0),.lit (Setup.l (S.mt nn)) 31 (0,0)),(S.bb,.rows 9 S.bR (fF S.bods) 106 (0,0)),((n1+0),.lit [vI b0,vI b1,vI b2] 45 (0,0))],[TS,TB,ER,RT],e_=decide (j4 (S.mt nn) cnt b0 b1 b2 vv),0⟩) ?_ ?_
   ·intro mt6
    refine RN.draw [] []<|ag [] [0,1,2,3] [.own 3]<|RD.em (b0 >= 0) 85 (λ h7=>?_) λ h7=>?_
    ·refine ag [] [4,6,5,7,8,9,10] [.own 3]<|RD.em (b0 < (cnt:Int)) 92 (λ h8=>?_) λ h8=>?_
     ·refine ag [] [11,12,13,14,15] [.own 3]<|RD.em (b1 >= 0) 97 (λ h9=>?_) λ h9=>?_
      ·refine ag [] [16,17,18,19] [.own 3]<|RD.em (b2 >= 32) 101 (λ h10=>?_) λ h10=>?_
       ·refine ag [] [20,21,22,23,24] [.own 3]<|RD.em (b2 < 48) 106 (λ h11=>?_) λ h11=>?_
        ·refine ag [] [25,27,26,28,29,30,31,33,32,34,35,36,37,38,39,40,41,42,43] []<|RD.em (vv >= (-16384)) 125 (λ h12=>?_) λ h12=>?_
         ·refine ag [] [44,45,46,47] []<|RD.fin ?_
          refine mt6 (decide (vv <= 16384)) [0,1,2,3] [0,1,2,3] ?_
          try dsimp only
          exact decide_eq_decide.2 ⟨λ h_=>⟨by omega,by omega,by omega,by omega⟩,λ h_=>h_.2.2.2.2⟩
         ·refine ag [] [44,45,46,47] []<|RD.fin ?_
          refine mt6 false [0,1,2,3] [0,1,2,3] ?_
          try dsimp only
          exact (decide_eq_false (p:=j4 (S.mt nn) cnt b0 b1 b2 vv) (λ h_=>by obtain ⟨h1_,h2_,h3_,h4_⟩:=h_;omega)).symm
        ·refine ag [] [25,27,26] (ow 1 16++[.own 3])<|ar [] 28 (λ X_=>(bS (S.mt nn) 0 _ hN_))<|ag [] [29,30] []<|RD.em (b2 >= af (S.mt nn) 0) 112 (λ h13=>?_) λ h13=>?_
         ·refine ag [] [31,33,32] (ow 1 16++[.own 3])<|ar [] 34 (λ X_=>(ld (S.mt nn) _ hN_))<|ag [] [35,36,37,38,39] []<|RD.em (b2 < sizeOf (S.mt nn)) 121 (λ h14=>?_) λ h14=>?_
          ·refine ag [] [40,41,42,43] []<|RD.em (vv >= (-16384)) 125 (λ h15=>?_) λ h15=>?_
           ·refine ag [] [44,45,46,47] []<|RD.fin ?_
            refine mt6 (decide (vv <= 16384)) [0,1,2,3] [0,1,2,3] ?_
            try dsimp only
            exact decide_eq_decide.2 ⟨λ h_=>⟨by omega,by omega,by omega,by omega⟩,λ h_=>h_.2.2.2.2⟩
           ·refine ag [] [44,45,46,47] []<|RD.fin ?_
            refine mt6 false [0,1,2,3] [0,1,2,3] ?_
            try dsimp only
            exact (decide_eq_false (p:=j4 (S.mt nn) cnt b0 b1 b2 vv) (λ h_=>by obtain ⟨h1_,h2_,h3_,h4_⟩:=h_;omega)).symm
          ·refine ag [] [40,41,42,43,44,45,46,47] []<|RD.fin ?_
           refine mt6 false [0,1,2,3] [0,1,2,3] ?_
           try dsimp only
           exact (decide_eq_false (p:=j4 (S.mt nn) cnt b0 b1 b2 vv) (λ h_=>by obtain ⟨h1_,h2_,h3_,h4_⟩:=h_;omega)).symm
         ·refine ag [] [31,33,32,34,35,36,37,38,39,40,41,42,43,44,45,46,47] []<|RD.fin ?_
          refine mt6 false [0,1,2,3] [0,1,2,3] ?_
          try dsimp only
          exact (decide_eq_false (p:=j4 (S.mt nn) cnt b0 b1 b2 vv) (λ h_=>by obtain ⟨h1_,h2_,h3_,h4_⟩:=h_;omega)).symm
       ·refine ag [] [20,21,22,23,24,25,27,26] (ow 1 16++[.own 3])<|ar [] 28 (λ X_=>(bS (S.mt nn) 0 _ hN_))<|ag [] [29,30] []<|RD.em (b2 >= af (S.mt nn) 0) 112 (λ h16=>?_) λ h16=>?_
        ·refine ag [] [31,33,32] (ow 1 16++[.own 3])<|ar [] 34 (λ X_=>(ld (S.mt nn) _ hN_))<|ag [] [35,36,37,38,39] []<|RD.em (b2 < sizeOf (S.mt nn)) 121 (λ h17=>?_) λ h17=>?_
         ·refine ag [] [40,41,42,43] []<|RD.em (vv >= (-16384)) 125 (λ h18=>?_) λ h18=>?_
          ·refine ag [] [44,45,46,47] []<|RD.fin ?_
           refine mt6 (decide (vv <= 16384)) [0,1,2,3] [0,1,2,3] ?_
           try dsimp only
           exact decide_eq_decide.2 ⟨λ h_=>⟨by omega,by omega,by omega,by omega⟩,λ h_=>h_.2.2.2.2⟩
          ·refine ag [] [44,45,46,47] []<|RD.fin ?_
           refine mt6 false [0,1,2,3] [0,1,2,3] ?_
           try dsimp only
           exact (decide_eq_false (p:=j4 (S.mt nn) cnt b0 b1 b2 vv) (λ h_=>by obtain ⟨h1_,h2_,h3_,h4_⟩:=h_;omega)).symm
         ·refine ag [] [40,41,42,43,44,45,46,47] []<|RD.fin ?_
          refine mt6 false [0,1,2,3] [0,1,2,3] ?_
          try dsimp only
          exact (decide_eq_false (p:=j4 (S.mt nn) cnt b0 b1 b2 vv) (λ h_=>by obtain ⟨h1_,h2_,h3_,h4_⟩:=h_;omega)).symm
        ·refine ag [] [31,33,32,34,35,36,37,38,39,40,41,42,43,44,45,46,47] []<|RD.fin ?_
         refine mt6 false [0,1,2,3] [0,1,2,3] ?_
         try dsimp only
         exact (decide_eq_false (p:=j4 (S.mt nn) cnt b0 b1 b2 vv) (λ h_=>by obtain ⟨h1_,h2_,h3_,h4_⟩:=h_;omega)).symm
      ·refine ag [] [16,17,18,19,20,21,22,23,24,25,27,26,28,29,30,31,33,32,34,35,36,37,38,39,40,41,42,43,44,45,46,47] []<|RD.fin ?_
       refine mt6 false [0,1,2,3] [0,1,2,3] ?_
       try dsimp only
       exact (decide_eq_false (p:=j4 (S.mt nn) cnt b0 b1 b2 vv) (λ h_=>by obtain ⟨h1_,h2_,h3_,h4_⟩:=h_;omega)).symm
     ·refine ag [] [11,12,13,14,15,16,17,18,19,20,21,22,23,24,25,27,26,28,29,30,31,33,32,34,35,36,37,38,39,40,41,42,43,44,45,46,47] []<|RD.fin ?_
      refine mt6 false [0,1,2,3] [0,1,2,3] ?_
      try dsimp only
      exact (decide_eq_false (p:=j4 (S.mt nn) cnt b0 b1 b2 vv) (λ h_=>by obtain ⟨h1_,h2_,h3_,h4_⟩:=h_;omega)).symm
    ·refine ag [] [4,6,5,7,8,9,10,11,12,13,14,15,16,17,18,19,20,21,22,23,24,25,27,26,28,29,30,31,33,32,34,35,36,37,38,39,40,41,42,43,44,45,46,47] []<|RD.fin ?_
     refine mt6 false [0,1,2,3] [0,1,2,3] ?_
     try dsimp only
     exact (decide_eq_false (p:=j4 (S.mt nn) cnt b0 b1 b2 vv) (λ h_=>by obtain ⟨h1_,h2_,h3_,h4_⟩:=h_;omega)).symm
   ·rintro e_ he9_
    refine ae 14 (ow 1 16++[.own 3,.own 3,.own 3]) λ _=>RN.ct (Hp:=[]) (Tp:=[]) [] [] (I9 (S.mt nn) rD (ko (kv xs 3 % 3).toNat) bp_ cnt cR jj AR rs (dW S.players xI cnt) b0 b1 b2 vv _ (GG hmt_ (hG.sin _ (aB 2) (aA 0))) (zh (hG.maps.2 _ (aA 0))) hV_ (by show S.rn <= _;omega) (by show S.dn <= _;omega) (by omega) hval_ hj (λ t ht=>hB_.at (aA 1) hj t ht) (au hE1) (hs_.rowN (aA 2) hrl_) (hT_ _ (aA 3)) hgr (by omega)) ?_
    rintro _ ⟨x19,S20,G21⟩ (⟨hfit24,rfl,he22,hX23⟩ | ⟨hfit24,rfl⟩)
    ·have h25:e_=true:=by rw [he9_];simpa using hfit24
     refine ae 14 [] λ _=>cV 145 (nt h25)<|ae 12 [] λ _=>aj (kV _ (au hE0) (au hE1))<|ae 4 [] λ _=>?_
     exact RN.ret [] [] [] ⟨rfl,rfl⟩
    ·have h26:¬ e_=true:=by rw [he9_];simpa using hfit24
     refine ae 14 [] λ _=>cV 145 (nf (Bool.eq_false_iff.2 h26))<|ae 10 [] λ _=>aj (kV _ (au hE0) (au hE1))<|ae 4 [] λ _=>?_
     exact RN.ret [] [] [] ⟨rfl,rfl⟩
open Go.ChangeShapes Go.WideShapes Go.ChangeAt
theorem GO:ownKnob Tryz.prog.godebug=none:=by kernel_rfl
theorem GP:laidOutB Tryz.prog=true:=by kernel_rfl
theorem ga {n:Int} (h:(Lit.int .i64 n).wf=true):-9223372036854775808 <= n /\ n <= 9223372036854775807:=bounds_i64 h
section
variable {H:Type} {enc:TypeId × Value -> H} {P:Program} {W W':World}
theorem lW (hl:laidOutB P=true) (hb:Below W.heap.size W W'):∀ {ts:List TypeId} {vs:List Value} {ds:List (DataW H)} {ps:List MemPlace},(∀ t ∈ ts,P.readableRec t=true /\ t < P.types.size) ->
  DataW.TrodAll enc P W 0 (λ _=>true) true ts vs ds ps -> (∀ x ∈ ps,x.block < W.heap.size) -> DataW.TrodAll enc P W' 0 (λ b=>decide (b < W.heap.size)) true ts vs ds ps
 | [],_,_,_,_,h,_=>by
  obtain ⟨rfl,rfl,rfl⟩:=trodAll_nil h
  exact trodAll_mk0
 | t :: ts,_,_,_,ht,h,hlt=>by
  obtain ⟨v,vs1,d,ds1,a,b,rfl,rfl,rfl,h1,h2⟩:=trodAll_cons h
  have h3:=ht t (by simp)
  exact trodAll_cons_mk (Below.trod hl h3.1 h3.2 h1 hb (λ x hx=>hlt x (by simp [hx]))) (lW hl hb (λ t h=>ht t (List.mem_cons_of_mem _ h)) h2 (λ x hx=>hlt x (by simp [hx])))
theorem GQ {f:Func} {s:ChangeSpec} {apart fresh handsOn:Bool} {args:Array Value} {v:Value} {ds:List (DataW H)} {before:List MemPlace} (hl:laidOutB P=true)
  (hts:∀ t ∈ f.params.toList,P.readableRec t=true /\ t < P.types.size)
  (hW:DataW.Whole enc P f.params.toList s.vars apart W args.toList ds [] before) (hs:s.vars=[])
  (hA:DataW.TrodAll enc P W 0 (λ _=>true) true f.params.toList args.toList ds before)
  (hres:∀ (b:Nat) (sp:Nat -> Bool) (hd:Bool),DataW.TrodAll enc P W' b sp hd f.resultTypes.toList (v.resultList f.resultTypes.size) (s.fn H (ds++[])).results [])
  (hargs:(s.fn H (ds++[])).args=ds) (hvars:∀ sp,DataW.TrodVars enc P W' sp s.vars (s.fn H (ds++[])).vars []) (hb:Below W.heap.size W W') :
  s.post enc P f apart fresh handsOn false W args v W':=by
 refine ⟨ds,[],before,[],before,[],hW,hres _ _ _,?_,hvars _,hb.frame _,λ h=>by cases h⟩
 rw [hargs]
 exact lW hl hb hts hA (λ x hx=>hW.lt x hx)
end
def rh:Obj -> Blk
 | .cells cs ty fz=>.rows 1 cs.size (λ i _=>cs.getD i default) ty fz
 | o=>.obj o
theorem lH (o:Obj):(rh o).den=o:=by
 cases o with
 | cells cs ty fz =>
  show Obj.cells ⟨bA 1 (λ i _=>cs.getD i default) cs.size⟩ ty fz=_
  congr 1
  have e:bA 1 (λ i _=>cs.getD i default) cs.size=cs.toList:=by
   refine g9 (by simp) ?_
   intro i k hi hk
   obtain rfl:k=0:=by omega
   simp [Array.getD,hi]
  rw [e]
 | _=>rfl
def kW (w:World):HL:=List.ofFn (λ k:Fin w.heap.size=>(k.1,rh w.heap[k.1]))
theorem ri {w:World} {k:Nat} {o:Obj} (h:w.heap[k]?=some o):(k,rh o) ∈ kW w:=by
 obtain ⟨hk,he⟩:=Array.getElem?_eq_some_iff.1 h
 exact List.mem_ofFn.2 ⟨⟨k,hk⟩,by simp [he]⟩
theorem zj (w:World):Rel (kW w) w:=by
 refine ⟨λ x hx=>?_,?_⟩
 ·obtain ⟨k,rfl⟩:=List.mem_ofFn.1 hx
  simp [lH]
 ·unfold kW
  rw [List.map_ofFn]
  have e:List.ofFn ((λ x:Nat × Blk=>x.1) ∘ λ k:Fin w.heap.size=>(k.1,rh w.heap[k.1]))=List.range w.heap.size:=by
   apply List.ext_getElem
   ·simp
   ·intro i h1 h2;simp
  rw [e]
  exact List.nodup_range
theorem CL {P:Program} {f:FuncId} {args:Array Value} {v:Value} (w:World) (h:Sp P f args [] (kW w) (λ u H'=>u=v /\ H'=[])):Calls P f args w λ e w'=>e=.returned v /\ Below w.heap.size w w':=by
 refine (h w (zj w)).mono ?_
 rintro e w' ⟨u,H',rfl,⟨rfl,rfl⟩,hR',hB⟩
 refine ⟨rfl,hB.os,hB.tape,hB.output,hB.size,λ k hk=>?_⟩
 have:=hR'.holds (k,rh w.heap[k]) (by rw [List.nil_append];exact ri (by simp [hk]))
 rw [this]
 simp [lH,hk]
theorem xg {H:Type} {enc:TypeId × Value -> H} {w:World} {r:Reach} {b0:Nat} {v:Value} {d:DataW H} {ps:List MemPlace} (hval:Value.okWide Tryz.prog w r b0 22 v) (hd:DataW.Trod enc Tryz.prog w 0 (λ _=>true) true 22 v d ps) :
  ∃ (A:Option Addr) (n cap:Nat) (xs:List Int),v=.slice A n cap /\ n <= 9223372036854775807 /\ ArgL (kW w) A n xs /\ n <= cap:=by
 obtain ⟨a0,len,cap,rfl⟩:=okWide_slice Tryz.underlying22 hval
 obtain ⟨fuel,hf⟩:=hd
 rcases open_ints Tryz.underlying22 Tryz.underlying3 (by kernel_rfl) hf with ⟨hcs,hx⟩ | ⟨a,len',cap',zs,hcs,_,hl,hm,hz,hx,hcell,hwz⟩
 ·simp [Value.cells] at hcs
  obtain ⟨rfl,rfl,rfl⟩:=hcs
  exact ⟨none,0,0,[],rfl,by omega,.zero _,Nat.le_refl _⟩
 ·simp [Value.cells] at hcs
  obtain ⟨rfl,rfl,rfl⟩:=hcs
  unfold maxLen at hm
  simp at hz
  rcases Nat.eq_zero_or_pos len with h0 | hpos
  ·subst h0
   exact ⟨some a,0,_,[],rfl,by omega,.zero _,Nat.zero_le _⟩
  ·have hlz:len <= zs.length:=by omega
   obtain ⟨b,off,spot⟩:=a
   have c0:=hcell 0 (by omega)
   have hsp:spot=none:=by
    cases spot with
    | none=>rfl
    | some s=>simp [Addr.add,World.cell?] at c0;split at c0 <;> simp at c0
   subst hsp
   have hc:∀ i,i < zs.length -> w.cell? ⟨b,off+i,none⟩=some (.int .i64 (zs.getD i 0)):=λ i hi=>by
    have:=hcell i hi
    unfold Addr.add at this
    by_cases h:i=0
    ·subst h;simpa using this
    ·rw [if_neg h] at this;exact this
   have h0:=hc 0 (by omega)
   unfold World.cell? at h0
   split at h0
   case h_2=>cases h0
   rename_i cs ty fz hb
   refine ⟨some ⟨b,off,none⟩,len,cap,zs.take len,rfl,by omega,?_,hl⟩
   have hlen:(zs.take len).length=len:=by rw [List.length_take];omega
   have hcs:∀ k,k < len -> cs[off+k]?=some (vI ((zs.take len).getD k 0)):=λ k hk=>by
    have h1:=hc k (by omega)
    unfold World.cell? at h1
    rw [show w.heap[(⟨b,off+k,none⟩:Addr).block]?=some (.cells cs ty fz) from hb] at h1
    have h2:cs[off+k]?=some (.int .i64 (zs.getD k 0)):=by simpa using h1
    rw [h2]
    simp [List.getD_eq_getElem?_getD,List.getElem?_take,hk]
   have hmem:=ri hb
   have hle:off+len <= cs.size:=by
    have h1:=hcs (len - 1) (by omega)
    have h2:=(Array.getElem?_eq_some_iff.1 h1).1
    omega
   have:=ArgL.cells (F:=kW w) b off cs.size (λ i _=>cs.getD i default) ty fz (zs.take len) hmem (by rw [hlen];exact hle) (λ k hk=>by
    rw [hlen] at hk
    have h1:=hcs k hk
    simp only [Array.getD_eq_getD_getElem?]
    rw [h1];rfl) (λ k hk=>by
    rw [hlen] at hk
    have:(zs.take len).getD k 0 ∈ zs:=by
     rw [List.getD_eq_getElem?_getD,List.getElem?_eq_getElem (by omega)]
     exact List.mem_of_mem_take (List.getElem_mem _)
    exact ga (hwz _ this))
   rw [hlen] at this
   exact this
theorem rP {H:Type} {enc:TypeId × Value -> H} {P:Program} {w:World} {base:Nat} {sp:Nat -> Bool} {held:Bool} {fuel:Nat} {t e:TypeId} {n m:Nat} {k:IntKind} {fs:Array Field} {cs:List Value} {zs:List (List Int)} {p:List MemPlace}
  (ht:P.underlying t=some (.array n e)) (he:P.underlying e=some (.struct fs)) (hce:P.cellsOf e=m) (hct:P.cellsOf t=n * m) (hm:0 < m) (hfl:fs.toList.length=m)
  (hf:∀ (j:Nat) f,fs.toList[j]?=some f -> P.underlying f.type=some (.int k) /\ P.cellsOf f.type=1 /\ f.offset=j) (hz:∀ z ∈ zs,z.length=m)
  (h:DataW.trod enc P w base sp held fuel t cs=some (.agg (zs.map λ z=>.agg (z.map λ x=>.lit (.int k x))),p)) :
  cs.length=n * m /\ zs.length=n /\ ∀ i j,i < n -> j < m -> cs[i * m+j]?=some (.int k ((zs.getD i []).getD j 0)):=by
 cases fuel with
 | zero=>simp [DataW.trod] at h
 | succ fuel =>
  simp only [DataW.trod,ht,hce,hct] at h
  split at h
  case isFalse=>cases h
  rename_i hl
  obtain ⟨xs,hmm,hx⟩:=Option.map_eq_some_iff.1 h
  have hxs:xs.map (·.1)=zs.map λ z=>(DataW.agg (z.map λ x=>.lit (.int k x)):DataW H):=by
   have:=congrArg Prod.fst hx
   simpa using this
  have hxl:xs.length=n:=by simpa using Lib.mapM_length hmm
  have hzl:zs.length=n:=by
   have:=congrArg List.length hxs
   simp at this
   omega
  refine ⟨hl,hzl,λ i j hi hj=>?_⟩
  obtain ⟨b,hb,hfb⟩:=Lib.mapM_at hmm i i (by simp [hi])
  have hbz:b.1=.agg ((zs.getD i []).map λ x=>.lit (.int k x)):=by
   have h2:(xs.map (·.1))[i]?=some b.1:=by simp [hb]
   rw [hxs,List.getElem?_map,List.getElem?_eq_getElem (by omega)] at h2
   simp only [Option.map_some,Option.some.injEq] at h2
   rw [<- h2,List.getD_eq_getElem?_getD,List.getElem?_eq_getElem (by omega)]
   rfl
  have hzi:(zs.getD i []).length=m:=by
   rw [List.getD_eq_getElem?_getD,List.getElem?_eq_getElem (by omega)]
   exact hz _ (List.getElem_mem _)
  cases fuel with
  | zero=>simp [DataW.trod] at hfb
  | succ fuel =>
   have hfb':=hfb
   simp only [DataW.trod,he,hce] at hfb'
   split at hfb'
   case isFalse=>cases hfb'
   rename_i hcl
   obtain ⟨ys,hym,hy⟩:=Option.map_eq_some_iff.1 hfb'
   have hys:ys.map (·.1)=(zs.getD i []).map λ x=>(DataW.lit (.int k x):DataW H):=by
    have:=congrArg Prod.fst hy
    rw [hbz] at this
    simpa using this
   have hfj:fs.toList[j]?=some (fs.toList[j]'(by omega)):=List.getElem?_eq_getElem (by omega)
   obtain ⟨c,hc,hfc⟩:=Lib.mapM_at hym j _ hfj
   obtain ⟨f1,f2,f3⟩:=hf j _ hfj
   rw [f2,f3] at hfc
   obtain ⟨x,hcx,hcd,_⟩:=DataW.trod_int f1 hfc
   have h1:(((cs.drop (i * m)).take m).drop j).take 1=[.int k x]:=hcx
   have h2:cs[i * m+j]?=some (.int k x):=by
    have:=congrArg (·[0]?) h1
    simpa [List.getElem?_take,List.getElem?_drop,hj] using this
   have h3:(ys.map (·.1))[j]?=some (DataW.lit (.int k x):DataW H):=by simp [hc,hcd]
   rw [hys,List.getElem?_map,List.getElem?_eq_getElem (by omega)] at h3
   simp only [Option.map_some,Option.some.injEq,DataW.lit.injEq,Lit.int.injEq,true_and] at h3
   have h4:∀ l:List Int,(hl:j < l.length) -> l[j]=l.getD j 0:=λ l hl=>by simp [List.getD_eq_getElem?_getD,hl]
   rw [h2,<- h3,h4 _ (by omega)]
theorem j5 {H:Type} {enc:TypeId × Value -> H} {a:Assume} {C:Checked} {os:Os} {f:FuncId} {fn:Func} {s:ChangeSpec} {conds:List PathCond} {apart fresh handsOn again:Bool} {X:World -> Array Value -> Prop}
  (hX:∀ (w w':World) (args:Array Value),w.heap=w'.heap -> X w args -> X w' args)
  (own:ownKnob C.prog.godebug=none) (started:os.Started) (noInit:C.prog.inits.idxOf? f=none) (hfn:C.prog.funcs[f]?=some fn)
  (witness:∃ (w:World) (tape:Tape) (i:Input),w.os=os /\ (w.forCall tape i).Shaped C.prog /\ i.vars=[] /\ Input.okWide C.prog (w.forCall tape i) .any w.heap.size f i /\
   ((s.pre enc C.prog fn conds apart (w.forCall tape i).memory i.args /\ X (w.forCall tape i).memory i.args) /\ sizedMet enc C.prog fn (OpenSpec.ofChange s) apart (w.forCall tape i).memory i.args) /\ a.holds C.prog (lone (Frame.enter C.prog f i.args .normal) [] (w.forCall tape i)))
  (contract:∀ (W:World) (base:Nat) (args:Array Value) (ds gs:List (DataW H)) (before:List MemPlace),W.ShapedOpen C.prog ->
   (∀ (j:Nat) t v,fn.params[j]?=some t -> args[j]?=some v -> Value.okWide C.prog W .any base t v) ->
   DataW.Whole enc C.prog fn.params.toList s.vars apart W args.toList ds gs before -> X W args ->
   Calls C.prog f args W λ e W'=>∃ v,e=.returned v /\ s.post enc C.prog fn apart fresh handsOn again W args v W') :
  ReturnsInHanded a C os f .any (λ w args=>(s.pre enc C.prog fn conds apart w args /\ X w args) /\ sizedMet enc C.prog fn (OpenSpec.ofChange s) apart w args) (s.post enc C.prog fn apart fresh handsOn again):=by
 refine returnsInHanded_of_calls own started noInit witness ?_
 intro w tape i _ hsh _ hok hpre hholds
 obtain ⟨_,_,_,fn',hfn',_,_,_,_,hval⟩:=hok
 have e:fn'=fn:=Option.some.inj (hfn'.symm.trans hfn)
 subst e
 obtain ⟨⟨⟨ds,gs,before,hw,hc⟩,hx⟩,hz⟩:=hpre
 have hw':=DataW.Whole.of_heap (w':=w.forCall tape i) (by rfl) hw
 refine (contract (w.forCall tape i) w.heap.size i.args ds gs before hsh hval hw' (hX _ _ _ (by rfl) hx)).mono λ e W' ⟨v,he,hp⟩=>?_
 subst he
 exact ChangeSpec.post_blind hp
def ceZ:List (List Int):=[[0,0],[0,1],[0,1],[1,0],[1,1],[2,0],[0,1],[0,1],[0,1],[2,1],[2,1],[2,1],[2,1],[1,1],[2,1],[2,1],[2,1],[1,1],[0,0],[1,0],[2,0],[0,0]]
def AP:Nat -> Nat -> Value:=λ i j=>.int .i64 ((ceZ.getD i []).getD j 0)
theorem GR:(Blk.rows 2 22 AP 302 (0,0)).den=(Blk.lit qT 302 (0,0)).den:=by kernel_rfl
def efZ:List (List Int):=mT.map λ z=>[z.1,z.2.1,z.2.2]
theorem xh (g:Nat) (t:TypeId) (hg:g < Tryz.prog.globals.size) (h0:(((begin Tryz.prog (λ _ _=>0) default).world.heap[g]?).bind Obj.row?).map (·.2)=some t) {W:World} (hs:W.ShapedOpen Tryz.prog):∃ cs,W.heap[g]?=some (.cells cs t (0,0)):=by
 cases h:((begin Tryz.prog (λ _ _=>0) default).world.heap[g]?).bind Obj.row? with
 | none=>rw [h] at h0;cases h0
 | some x =>
  obtain ⟨z,t'⟩:=x
  rw [h] at h0
  simp only [Option.map_some,Option.some.injEq] at h0
  subst h0
  obtain ⟨cs,h1,_⟩:=hs.1 g z t' hg h
  exact ⟨cs,h1⟩
def GS (P:Program) (e:TypeId) (m:Nat):Bool :=
 match P.underlying e with
 | some (.struct fs)=>decide (fs.toList.length=m) && (List.range m).all λ j =>
  match fs.toList[j]? with
  | some f=>(match P.underlying f.type with | some (.int .i64)=>true | _=>false) && decide (P.cellsOf f.type=1) && decide (f.offset=j)
  | none=>false
 | _=>false
theorem CM {P:Program} {e:TypeId} {m:Nat} (h:GS P e m=true):∃ fs:Array Field,P.underlying e=some (.struct fs) /\ fs.toList.length=m /\
  ∀ (j:Nat) f,fs.toList[j]?=some f -> P.underlying f.type=some (.int .i64) /\ P.cellsOf f.type=1 /\ f.offset=j:=by
 unfold GS at h
 split at h
 case h_2=>cases h
 rename_i fs hfs
 rw [Bool.and_eq_true] at h
 have hm:fs.toList.length=m:=of_decide_eq_true h.1
 refine ⟨fs,hfs,hm,λ j f hj=>?_⟩
 have hjm:j < m:=by rw [<- hm];exact (List.getElem?_eq_some_iff.1 hj).1
 have h2:=List.all_eq_true.1 h.2 j (List.mem_range.2 hjm)
 rw [hj] at h2
 simp only [Bool.and_eq_true,decide_eq_true_eq] at h2
 refine ⟨?_,h2.1.2,h2.2⟩
 have h3:=h2.1.1
 split at h3
 ·assumption
 ·cases h3
theorem AQ {P:Program} {W:World} {name:String} {g n m:Nat} {t e:TypeId} {zs:List (List Int)} {rest:List (String × DataW Unit)} {ps:List MemPlace} {row:Nat -> Nat -> Value} {cs0:Array Value}
  (hb:W.heap[g]?=some (.cells cs0 t (0,0)))
  (hg:P.globalNamed name=some g) (hty:(P.globals[g]?).map (·.type)=some t) (ht:P.underlying t=some (.array n e)) (hE:GS P e m=true) (hce:P.cellsOf e=m) (hct:P.cellsOf t=n * m) (hm:0 < m) (hz:∀ z ∈ zs,z.length=m)
  (hrow:∀ i j,i < n -> j < m -> row i j=.int .i64 ((zs.getD i []).getD j 0))
  (h:DataW.LaidVars P W ((name,.agg (zs.map λ z=>.agg (z.map λ x=>.lit (.int .i64 x)))) :: rest) ps):W.heap[g]?=some (Blk.rows m n row t (0,0)).den /\ ∃ q,DataW.LaidVars P W rest q:=by
 obtain ⟨fs,he,hfl,hf⟩:=CM hE
 obtain ⟨g',t',cs,fuel,p,q,hg',ht',hvar,hd,hr,_⟩:=h
 obtain rfl:=Option.some.inj (hg.symm.trans hg')
 obtain rfl:=Option.some.inj (hty.symm.trans ht')
 have hv:W.var? P name=some cs0:=by
  unfold World.var?
  rw [hg]
  simp only [Option.bind_some,hb]
 obtain rfl:=Option.some.inj (hv.symm.trans hvar)
 obtain ⟨h1,h2,h3⟩:=rP ht he hce hct hm hfl hf hz hd
 refine ⟨?_,q,hr⟩
 rw [hb]
 show some (Obj.cells cs0 t (0,0))=some (Obj.cells ⟨bA m row n⟩ t (0,0))
 congr 2
 obtain ⟨l⟩:=cs0
 congr 1
 symm
 exact g9 (w:=m) h1 λ i j hi hj=>by rw [hrow i j hi hj];exact h3 i j hi hj
theorem Jh {W:World} (hs:W.ShapedOpen Tryz.prog) (hL:laidMetH Tryz.prog [("arenanet/compile.effects",Rows.laid_arenanet_compile_effects),("arenanet/vm.effects",Rows.laid_arenanet_vm_effects)] W):W.heap[0]?=some (Blk.lit qT 302 (0,0)).den /\ W.heap[1]?=some (Blk.rows 3 22 me 323 (0,0)).den:=by
 rw [MakeChecks.laidMetH_plain _ _ _ (by kernel_rfl)] at hL
 obtain ⟨ps,hv,_,_⟩:=hL
 obtain ⟨cs0,hb0⟩:=xh 0 302 (of_decide_eq_true (by kernel_rfl)) (by kernel_rfl) hs
 obtain ⟨cs1,hb1⟩:=xh 1 323 (of_decide_eq_true (by kernel_rfl)) (by kernel_rfl) hs
 have hv0:DataW.LaidVars Tryz.prog W (("arenanet/compile.effects",.agg (ceZ.map λ z=>.agg (z.map λ x=>.lit (.int .i64 x)))) :: [("arenanet/vm.effects",.agg (efZ.map λ z=>.agg (z.map λ x=>.lit (.int .i64 x))))]) ps:=hv
 obtain ⟨h0,q,hq⟩:=AQ (n:=22) (m:=2) (e:=301) (row:=AP) hb0 (by kernel_rfl) (by kernel_rfl) (by kernel_rfl) (by kernel_rfl) (by kernel_rfl) (by kernel_rfl) (by decide) (by decide) (λ i j hi hj=>rfl) hv0
 obtain ⟨h1,_⟩:=AQ (n:=22) (m:=3) (e:=322) (row:=me) hb1 (by kernel_rfl) (by kernel_rfl) (by kernel_rfl) (by kernel_rfl) (by kernel_rfl) (by kernel_rfl) (by decide) (by decide) (λ i j hi hj=>by
  have key:∀ i:Fin 22,∀ j:Fin 3,(if j.1=0 then (mT.getD i.1 (0,0,0)).1 else if j.1=1 then (mT.getD i.1 (0,0,0)).2.1 else (mT.getD i.1 (0,0,0)).2.2)=(efZ.getD i.1 []).getD j.1 0:=by decide
  have:=key ⟨i,hi⟩ ⟨j,hj⟩
  rcases j with _ | _ | _ | j
  ·exact congrArg (Value.int .i64) this
  ·exact congrArg (Value.int .i64) this
  ·exact congrArg (Value.int .i64) this
  ·omega) hq
 exact ⟨h0.trans (congrArg some GR),h1⟩
def rj (W:World):HL:=List.ofFn (λ k:Fin W.heap.size=>(k.1,if k.1=0 then Blk.lit qT 302 (0,0) else if k.1=1 then Blk.rows 3 22 me 323 (0,0) else rh W.heap[k.1]))
theorem zk {W:World} (h0:W.heap[0]?=some (Blk.lit qT 302 (0,0)).den) (h1:W.heap[1]?=some (Blk.rows 3 22 me 323 (0,0)).den):ij (kW W)=ij (rj W):=by
 unfold ij kW rj
 rw [List.map_ofFn,List.map_ofFn]
 congr 1
 funext k
 show (k.1,(rh W.heap[k.1]).den)=(k.1,Blk.den (if k.1=0 then _ else if k.1=1 then _ else _))
 rw [lH]
 congr 1
 by_cases e0:k.1=0
 ·rw [if_pos e0]
  have h2:W.heap[k.1]?=some (Blk.lit qT 302 (0,0)).den:=by rw [show W.heap[k.1]?=W.heap[0]? by rw [e0]];exact h0
  rw [Array.getElem?_eq_getElem k.2] at h2
  exact Option.some.inj h2
 ·rw [if_neg e0]
  by_cases e1:k.1=1
  ·rw [if_pos e1]
   have h2:W.heap[k.1]?=some (Blk.rows 3 22 me 323 (0,0)).den:=by rw [show W.heap[k.1]?=W.heap[1]? by rw [e1]];exact h1
   rw [Array.getElem?_eq_getElem k.2] at h2
   exact Option.some.inj h2
  ·rw [if_neg e1,lH]
theorem GT {W:World} (h0:W.heap[0]?=some (Blk.lit qT 302 (0,0)).den):kU (rj W) :=
 List.mem_ofFn.2 ⟨⟨0,(Array.getElem?_eq_some_iff.1 h0).1⟩,rfl⟩
theorem GU {W:World} (h1:W.heap[1]?=some (Blk.rows 3 22 me 323 (0,0)).den):ck (rj W) :=
 List.mem_ofFn.2 ⟨⟨1,(Array.getElem?_eq_some_iff.1 h1).1⟩,rfl⟩
open Go.Joins
theorem CN {H:Type} {enc:TypeId × Value -> H} {P:Program} {w:World} {base:Nat} {spare:Nat -> Bool} {held:Bool} {r:Reach} {b0:Nat} {t e:TypeId} {v:Value} {d:DataW H} {p:List MemPlace} (hs:P.underlying t=some (.array 3 e)) (hC:P.cellsOf t=3) (hce:P.cellsOf e=1)
  (hv:Value.okWide P w r b0 t v) (h:DataW.Trod enc P w base spare held t v d p) :
  ∃ (v0 v1 v2:Value) (y0 y1 y2:DataW H × List MemPlace) (n:Nat),v=.agg #[v0,v1,v2] /\ d=.agg [y0.1,y1.1,y2.1] /\ p=y0.2++(y1.2++y2.2) /\
   DataW.trod enc P w base spare held n e [v0]=some y0 /\ DataW.trod enc P w base spare held n e [v1]=some y1 /\ DataW.trod enc P w base spare held n e [v2]=some y2:=by
 simp only [Value.okWide,hs] at hv
 obtain ⟨cs,rfl,hsz,_⟩:=hv
 rw [hC] at hsz
 obtain ⟨l⟩:=cs
 match l,hsz with
 | [c0,c1,c2],_ =>
  obtain ⟨fuel,hf⟩:=h
  obtain ⟨xs,m,rfl,hx,_,hlen,hi⟩:=DataW.trod_array hs hf
  match xs,hlen with
  | [y0,y1,y2],_ =>
   simp only [Prod.mk.injEq] at hx
   have i0:=hi 0 (by decide)
   have i1:=hi 1 (by decide)
   have i2:=hi 2 (by decide)
   simp only [hce,Value.cells] at i0 i1 i2
   exact ⟨c0,c1,c2,y0,y1,y2,m,rfl,by simpa using hx.1,by simpa using hx.2,by simpa using i0,by simpa using i1,by simpa using i2⟩
noncomputable def CO (os:Os):World:=World.laidAll Tryz.prog os Rows.disputeErrorsRow.laid
theorem rQ (os:Os) (started:os.Started) (H:Type) (enc:TypeId × Value -> H) :
  ReturnsInHanded {} Tryz.checked os 5 .any (λ w args=>(Rows.disputeErrorsSpec.pre enc Tryz.prog Tryz.f5 [] false w args /\ laidMetH Tryz.prog Rows.disputeErrorsRow.laid w) /\ sizedMet enc Tryz.prog Tryz.f5 (OpenSpec.ofChange Rows.disputeErrorsSpec) false w args)
   (Rows.disputeErrorsSpec.post enc Tryz.prog Tryz.f5 false true false false):=by
 refine j5 (C:=Tryz.checked) (X:=λ w _=>laidMetH Tryz.prog Rows.disputeErrorsRow.laid w) (λ _ _ _ hh h=>h.of_heap hh) GO started (by kernel_rfl) Tryz.func5
  (ChangeSpec.witness_at (enc:=enc) (C:=Tryz.checked) (os:=os) (X:=λ w _=>laidMetH Tryz.prog Rows.disputeErrorsRow.laid w) false (CO os) #[.slice none 0 0,.int .i64 0,.slice none 0 0,.int .i64 0,.agg #[.int .i64 0,.int .i64 0,.int .i64 0],.int .i64 0,.bool false] 8 (World.laidAll_os _ _ _) (by kernel_rfl) (by kernel_rfl) (by kernel_rfl) (by kernel_rfl) (by kernel_rfl) (laidMetH_of_parts (laidMet_laidAll _ (by kernel_rfl) (by kernel_rfl)) (by kernel_rfl))) ?_
 intro W base args ds gs before hsh hval0 hW hL
 have hval:∀ (j:Nat) t v,Tryz.f5.params[j]?=some t -> args[j]?=some v -> Value.okWide Tryz.prog W .any base t v:=hval0
 have hW':=hW
 obtain ⟨p,q,hA0,hV,rfl,hfz,hnd⟩:=hW
 have hA:DataW.TrodAll enc Tryz.prog W 0 (λ _=>true) true Tryz.f5.params.toList args.toList ds p:=hA0
 have hAA:=hA
 rw [Tryz.params5] at hA hval
 obtain ⟨v0,vs0,d0,ds0,p0,q0,hargs,rfl,rfl,h0r,r0⟩:=trodAll_cons hA
 obtain ⟨v1,vs1,d1,ds1,p1,q1,rfl,rfl,rfl,h1r,r1⟩:=trodAll_cons r0
 obtain ⟨v2,vs2,d2,ds2,p2,q2,rfl,rfl,rfl,h2r,r2⟩:=trodAll_cons r1
 obtain ⟨v3,vs3,d3,ds3,p3,q3,rfl,rfl,rfl,h3r,r3⟩:=trodAll_cons r2
 obtain ⟨v4,vs4,d4,ds4,p4,q4,rfl,rfl,rfl,h4r,r4⟩:=trodAll_cons r3
 obtain ⟨v5,vs5,d5,ds5,p5,q5,rfl,rfl,rfl,h5r,r5⟩:=trodAll_cons r4
 obtain ⟨v6,vs6,d6,ds6,p6,q6,rfl,rfl,rfl,h6r,r6⟩:=trodAll_cons r5
 obtain ⟨rfl,rfl,rfl⟩:=trodAll_nil r6
 obtain rfl:args=#[v0,v1,v2,v3,v4,v5,v6]:=by cases args;simp_all
 obtain ⟨rfl,rfl⟩:=trodVars_none hV
 obtain ⟨A0,n0,c0,x0,rfl,b0,h0,k0⟩:=xg (hval 0 22 v0 rfl rfl) h0r
 obtain ⟨a1,rfl,rfl,rfl,w1z⟩:=open_int Tryz.underlying3 (hval 1 3 v1 rfl rfl) h1r
 have w1:=ga w1z
 obtain ⟨A2,n2,c2,x2,rfl,b2,h2,k2⟩:=xg (hval 2 22 v2 rfl rfl) h2r
 obtain ⟨a3,rfl,rfl,rfl,w3z⟩:=open_int Tryz.underlying3 (hval 3 3 v3 rfl rfl) h3r
 have w3:=ga w3z
 obtain ⟨e40,e41,e42,y40,y41,y42,m4,rfl,rfl,rfl,hy40,hy41,hy42⟩:=CN Tryz.underlying45 (by kernel_rfl) (by kernel_rfl) (hval 4 45 v4 rfl rfl) h4r
 obtain ⟨a40,hc40,hx40,w40z⟩:=DataW.trod_int Tryz.underlying3 hy40
 obtain rfl:e40=.int .i64 a40:=by simpa using hc40
 subst hx40
 have w40:=ga w40z
 obtain ⟨a41,hc41,hx41,w41z⟩:=DataW.trod_int Tryz.underlying3 hy41
 obtain rfl:e41=.int .i64 a41:=by simpa using hc41
 subst hx41
 have w41:=ga w41z
 obtain ⟨a42,hc42,hx42,w42z⟩:=DataW.trod_int Tryz.underlying3 hy42
 obtain rfl:e42=.int .i64 a42:=by simpa using hc42
 subst hx42
 have w42:=ga w42z
 obtain ⟨a5,rfl,rfl,rfl,w5z⟩:=open_int Tryz.underlying3 (hval 5 3 v5 rfl rfl) h5r
 have w5:=ga w5z
 obtain ⟨a6,rfl,rfl,rfl⟩:=open_bool Tryz.underlying4 (hval 6 4 v6 rfl rfl) h6r
 clear hA0 hval0
 simp only [List.append_nil,List.nil_append] at hW' hAA
 obtain ⟨g0,g1⟩:=Jh hsh hL
 have eW:=zk g0 g1
 refine (CL W ((zi A0 A2 n0 c0 n2 c2 x0 x2 a1 a3 a40 a41 a42 a5 a6 (rj W) (GT g0) (GU g1) (h0.d eW) b0 (h2.d eW) b2 w1 w3).den eW.symm)).mono λ e W' ⟨he,hb⟩=>?_
 subst he
 exact ⟨_,rfl,GQ GP (by rw [Tryz.params5];intro t ht;simp at ht;first | (subst ht;exact ⟨by kernel_rfl,of_decide_eq_true (by kernel_rfl)⟩) | (rcases ht with rfl | rfl <;> exact ⟨by kernel_rfl,of_decide_eq_true (by kernel_rfl)⟩) | (rcases ht with rfl | rfl | rfl <;> exact ⟨by kernel_rfl,of_decide_eq_true (by kernel_rfl)⟩) | (rcases ht with rfl | rfl | rfl | rfl <;> exact ⟨by kernel_rfl,of_decide_eq_true (by kernel_rfl)⟩) | (rcases ht with rfl | rfl | rfl | rfl | rfl <;> exact ⟨by kernel_rfl,of_decide_eq_true (by kernel_rfl)⟩) | (rcases ht with rfl | rfl | rfl | rfl | rfl | rfl <;> exact ⟨by kernel_rfl,of_decide_eq_true (by kernel_rfl)⟩) | (rcases ht with rfl | rfl | rfl | rfl | rfl | rfl | rfl <;> exact ⟨by kernel_rfl,of_decide_eq_true (by kernel_rfl)⟩)) hW' rfl hAA (λ _ _ _=>trodAll_cons_mk (shut_bool Tryz.underlying4 _) trodAll_mk0) rfl (λ _=>rfl) hb⟩
theorem rk:(Rows.disputeErrorsRow.inPlace == Tryz.prog.inPlace 5)=true:=by kernel_rfl
theorem ov:(Rows.disputeErrorsRow.named == Tryz.prog.varsNamed 5)=true:=by kernel_rfl
theorem nu:(Rows.disputeErrorsRow.unfollowed == Tryz.prog.unfollowed 5)=true:=by kernel_rfl
theorem pi:(Rows.disputeErrorsRow.recurses == Tryz.prog.recurses 5)=true:=by kernel_rfl
theorem rm:laidOutB Tryz.prog=true:=by kernel_rfl
theorem ox:mapsRowed Tryz.prog=true:=by kernel_rfl
theorem oy:(Rows.disputeErrorsRow.plainKeys == Tryz.prog.plainKeys)=true:=by kernel_rfl
theorem uv:Tryz.prog.mayEnter=true:=by kernel_rfl
theorem uw:Tryz.prog.stopsHeard=true:=by kernel_rfl
theorem rR:joinedFacts Tryz.prog 5 Tryz.f5 Rows.disputeErrorsSpec Rows.disputeErrorsRow=true:=by
 unfold joinedFacts
 simp only [rk,ov,nu,pi,rm,ox,oy,uv,uw,Bool.and_true,Bool.true_and]
 kernel_rfl
theorem xi:Rows.DisputeErrorsSaid :=
 OpenClaim.holds_of_wide 5 Tryz.f5 rfl rfl rfl rfl rfl rfl rfl ⟨rfl,rfl,rfl,rfl,rfl⟩ rfl rfl rfl rfl rfl (by kernel_rfl) Tryz.func5 rR
  (of_decide_eq_true (by kernel_rfl)) (by unfold Func.isWrapper;first | (rw [if_pos (by decide +kernel)];kernel_rfl) | (rw [if_neg (by decide +kernel)];exact ⟨rfl,rfl⟩))
  (λ os started H enc _=>rQ os started H enc)
theorem xj:false=Rows.disputeErrorsRow.goesBy Tryz.prog:=by kernel_rfl
theorem ux:Tryz.prog.funcNamed "arenanet/arenanetlaw33.DisputeErrors"=some 5:=by kernel_rfl
theorem zl:false=Tryz.prog.looks []:=by kernel_rfl
end Go.Proofs.YtghjbimijeinfaaGreatDoor
