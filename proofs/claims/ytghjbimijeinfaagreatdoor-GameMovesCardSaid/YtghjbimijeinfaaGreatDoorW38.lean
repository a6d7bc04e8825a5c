import Derived.Test.YtghjbimijeinfaaGreatDoorW37
import Derived.Test.YtghjbimijeinfaaGreatDoorW36
set_option maxHeartbeats 4000000
set_option maxRecDepth 100000
set_option linter.unusedSimpArgs false
set_option linter.unusedVariables false
namespace Go.Proofs.YtghjbimijeinfaaGreatDoor
open Go.RowKit
def bodsL (M:MemS):List Int:=((if M.get 1=1 \/ M.get 1=2 \/ M.get 1=6 then operL M else [])++(if 3 <= M.get 1 /\ M.get 1 <= 7 then [M.get 2] else []))++(if M.get 1=4 \/ M.get 1=5 then [M.get 3] else [])
def headL (S:Setup) (M:MemS):List Int:=(rg 0 14++(if M.get 1=1 \/ M.get 1=2 \/ M.get 1=6 then rg 16 16++rg 32 16 else []))++(if 0 <= playerAt S (M.get 2) /\ (M.get 1=0 \/ M.get 1=1 \/ M.get 1=3) then rg (playerAt S (M.get 2)) 4 else [])
def bcT (S:Setup) (b:Int):List Int:=if 0 <= bodyAt S b then rg (bodyAt S b) 8 else []
def touL (S:Setup) (M:MemS):List Int:=headL S M++(Lib.compact (srt (bodsL M))).flatMap (bcT S)
theorem headL_len (S:Setup) (M:MemS):(headL S M).length <= 50:=by
 unfold headL
 rw [List.length_append,List.length_append,rg_len]
 split <;> split <;> simp [rg_len]
theorem bcT_len (S:Setup) (b:Int):(bcT S b).length <= 8:=by unfold bcT;split <;> simp [rg_len]
theorem tk_len (S:Setup):∀ (K:List Int) (r:Nat),((K.take r).flatMap (bcT S)).length <= 8 * r
 | [],r=>by simp
 | x :: K,0=>by simp
 | x :: K,r+1=>by
  have:=tk_len S K r
  have:=bcT_len S x
  simp only [List.take_succ_cons,List.flatMap_cons,List.length_append]
  omega
theorem tk_succ (S:Setup) {K rest:List Int} {r:Nat} (h:r < K.length):(K.take (r+1)).flatMap (bcT S)=(K.take r).flatMap (bcT S)++bcT S ((K++rest).getD r 0):=by
 rw [List.take_succ_eq_append_getElem h,List.flatMap_append,List.getD_eq_getElem?_getD,List.getElem?_append_left h,List.getElem?_eq_getElem h]
 simp
theorem bodsL_len (M:MemS):(bodsL M).length <= 4:=by
 have:=operL_len M
 unfold bodsL
 rw [List.length_append,List.length_append]
 split <;> split <;> split <;> simp <;> omega
theorem lenE {P:Program} {f:FuncId} {A:Option Addr} {c n m:Nat} {H F:HL} {R:Value -> HL -> Prop} (e:m=n) (h:Sp P f #[.slice A m c] H F R):Sp P f #[.slice A n c] H F R:=e ▸ h
theorem touches_any (mb k:Nat) (M:MemS) (S:Setup) (T F:HL) (hSN:SetN S) (h:MemH mb M k T) (hT:∀ x ∈ T,x ∈ F):Sp Tryz.prog 17 #[.iface 40 (vP mb 0),(Setup.v S)] [] F (λ u H'=>∃ x:List Int × Option Addr × Nat × HL,H'=ap [] [x.2.2.2] /\ (u=.slice x.2.1 x.1.length x.2.2.1 /\ SlIs intE 3 x.1 x.2.1 x.2.2.1 x.2.2.2 /\ zeroOff x.2.1 /\ x.1=touL S M)):=by
 refine Sp.run Tryz.func17 rfl mn (A:=[]) (Ts:=[]) rfl λ w0=>?_
 refine RN.go 19 [] λ n1=>RN.cp (get_any 1 h (λ x hx=>ro_ap (hT x hx)))<|RN.go 1 [] λ _=>RN.cp (get_any 2 h (λ x hx=>ro_ap (hT x hx)))<|RN.go 1 [] λ _=>RN.cp (get_any 3 h (λ x hx=>ro_ap (hT x hx)))<|RN.go 7 [] λ _=>RN.nt<|RN.ct [] [0] (span_any [] none 0 ([]:HL) 0 14 _ (SlIs.nil _ _) trivial (Nat.zero_le _) (by omega) (by omega)) ?_
 rintro _ ⟨la2,Aa3,ca4,Ta5⟩ ⟨rfl,hsa6,hza7,e8⟩
 dsimp only at hsa6 hza7 e8
 have hnla2:la2.length=0+14:=by rw [e8,List.length_append,rg_len];rfl
 refine RN.go 9 [] λ _=>RN.cut (σ:=List Int × Option Addr × Nat × HL × List Int × Option Addr × Nat × HL) (λ ⟨l1,A1,c1,T1,b1,B1,d1,U1⟩=>⟨[(3,vP (n1+0) 0),(5,vI (M.get 1)),(6,vI (M.get 2)),(7,vI (M.get 3)),(8,.slice A1 l1.length c1),(9,.slice B1 b1.length d1)],[((n1+0),.lit (Setup.l S) 31 (0,0))],[T1,U1],SlIs intE 3 l1 A1 c1 T1 /\ zeroOff A1 /\ SlIs intE 3 b1 B1 d1 U1 /\ zeroOff B1 /\ l1=rg 0 14++(if M.get 1=1 \/ M.get 1=2 \/ M.get 1=6 then rg 16 16++rg 32 16 else []) /\ b1=(if M.get 1=1 \/ M.get 1=2 \/ M.get 1=6 then operL M else []),0⟩) ?_ ?_
 ·intro mt9
  refine RN.go 5 [] λ _=>RN.em (M.get 1=1) 25 (λ h10=>?_) λ h10=>?_
  ·refine RN.go 13 [] λ _=>RN.ct [] [0] (span_any la2 Aa3 ca4 Ta5 16 16 _ hsa6 hza7 (by omega) (by omega) (by omega)) ?_
   rintro _ ⟨la11,Aa12,ca13,Ta14⟩ ⟨rfl,hsa15,hza16,e17⟩
   dsimp only at hsa15 hza16 e17
   have hnla11:la11.length=la2.length+16:=by rw [e17,List.length_append,rg_len]
   refine RN.go 6 [] λ _=>RN.ct [] [0] (span_any la11 Aa12 ca13 Ta14 32 16 _ hsa15 hza16 (by omega) (by omega) (by omega)) ?_
   rintro _ ⟨la18,Aa19,ca20,Ta21⟩ ⟨rfl,hsa22,hza23,e24⟩
   dsimp only at hsa22 hza23 e24
   have hnla18:la18.length=la11.length+16:=by rw [e24,List.length_append,rg_len]
   refine RN.go 5 [] λ _=>RN.ct (Hp:=[]) (Tp:=[]) [] [] (opers_any mb k M T _ h (λ x hx=>ro_ap (hT x hx))) ?_
   rintro _ ⟨ba25,Aa26,ca27,Ta28⟩ ⟨rfl,hsa29,hza30,e31⟩
   dsimp only at hsa29 hza30 e31
   refine RN.go 2 [] λ _=>?_
   refine mt9 (la18,Aa19,ca20,Ta21,ba25,Aa26,ca27,Ta28) [0] [1,0] ?_
   try dsimp only
   refine ⟨hsa22,hza23,hsa29,hza30,?_,?_⟩
   ·rw [if_pos (by omega)];simp [e8,e17,e24]
   ·rw [if_pos (by omega)];exact e31
  ·refine RN.go 4 [] λ _=>RN.em (M.get 1=2) 29 (λ h32=>?_) λ h32=>?_
   ·refine RN.go 9 [] λ _=>RN.ct [] [0] (span_any la2 Aa3 ca4 Ta5 16 16 _ hsa6 hza7 (by omega) (by omega) (by omega)) ?_
    rintro _ ⟨la33,Aa34,ca35,Ta36⟩ ⟨rfl,hsa37,hza38,e39⟩
    dsimp only at hsa37 hza38 e39
    have hnla33:la33.length=la2.length+16:=by rw [e39,List.length_append,rg_len]
    refine RN.go 6 [] λ _=>RN.ct [] [0] (span_any la33 Aa34 ca35 Ta36 32 16 _ hsa37 hza38 (by omega) (by omega) (by omega)) ?_
    rintro _ ⟨la40,Aa41,ca42,Ta43⟩ ⟨rfl,hsa44,hza45,e46⟩
    dsimp only at hsa44 hza45 e46
    have hnla40:la40.length=la33.length+16:=by rw [e46,List.length_append,rg_len]
    refine RN.go 5 [] λ _=>RN.ct (Hp:=[]) (Tp:=[]) [] [] (opers_any mb k M T _ h (λ x hx=>ro_ap (hT x hx))) ?_
    rintro _ ⟨ba47,Aa48,ca49,Ta50⟩ ⟨rfl,hsa51,hza52,e53⟩
    dsimp only at hsa51 hza52 e53
    refine RN.go 2 [] λ _=>?_
    refine mt9 (la40,Aa41,ca42,Ta43,ba47,Aa48,ca49,Ta50) [0] [1,0] ?_
    try dsimp only
    refine ⟨hsa44,hza45,hsa51,hza52,?_,?_⟩
    ·rw [if_pos (by omega)];simp [e8,e39,e46]
    ·rw [if_pos (by omega)];exact e53
   ·refine RN.go 5 [] λ _=>RN.em (M.get 1=6) 32 (λ h54=>?_) λ h54=>?_
    ·refine RN.go 4 [] λ _=>RN.ct [] [0] (span_any la2 Aa3 ca4 Ta5 16 16 _ hsa6 hza7 (by omega) (by omega) (by omega)) ?_
     rintro _ ⟨la55,Aa56,ca57,Ta58⟩ ⟨rfl,hsa59,hza60,e61⟩
     dsimp only at hsa59 hza60 e61
     have hnla55:la55.length=la2.length+16:=by rw [e61,List.length_append,rg_len]
     refine RN.go 6 [] λ _=>RN.ct [] [0] (span_any la55 Aa56 ca57 Ta58 32 16 _ hsa59 hza60 (by omega) (by omega) (by omega)) ?_
     rintro _ ⟨la62,Aa63,ca64,Ta65⟩ ⟨rfl,hsa66,hza67,e68⟩
     dsimp only at hsa66 hza67 e68
     have hnla62:la62.length=la55.length+16:=by rw [e68,List.length_append,rg_len]
     refine RN.go 5 [] λ _=>RN.ct (Hp:=[]) (Tp:=[]) [] [] (opers_any mb k M T _ h (λ x hx=>ro_ap (hT x hx))) ?_
     rintro _ ⟨ba69,Aa70,ca71,Ta72⟩ ⟨rfl,hsa73,hza74,e75⟩
     dsimp only at hsa73 hza74 e75
     refine RN.go 2 [] λ _=>?_
     refine mt9 (la62,Aa63,ca64,Ta65,ba69,Aa70,ca71,Ta72) [0] [1,0] ?_
     try dsimp only
     refine ⟨hsa66,hza67,hsa73,hza74,?_,?_⟩
     ·rw [if_pos (by omega)];simp [e8,e61,e68]
     ·rw [if_pos (by omega)];exact e75
    ·refine RN.go 2 [] λ _=>RN.nt ?_
     refine mt9 (la2,Aa3,ca4,Ta5,[],none,0,([]:HL)) [0] [1,0] ?_
     try dsimp only
     refine ⟨hsa6,hza7,(SlIs.nil _ _),trivial,?_,?_⟩
     ·rw [if_neg (by omega)];simp [e8]
     ·rw [if_neg (by omega)]
 ·rintro ⟨l1,A1,c1,T1,b1,B1,d1,U1⟩ ⟨hs1,hz1,hsb1,hzb1,el1,eb1⟩
  have hlen1:l1.length <= 46:=by rw [el1];split <;> simp [rg_len]
  have hlb1:b1.length <= 2:=by have:=operL_len M;rw [eb1];split <;> simp <;> omega
  refine RN.go 2 [] λ _=>RN.cut (σ:=List Int × Option Addr × Nat × HL) (λ ⟨l2,A2,c2,T2⟩=>⟨[(3,vP (n1+0) 0),(5,vI (M.get 1)),(6,vI (M.get 2)),(7,vI (M.get 3)),(8,.slice A2 l2.length c2),(9,.slice B1 b1.length d1)],[((n1+0),.lit (Setup.l S) 31 (0,0))],[T2,U1],SlIs intE 3 l2 A2 c2 T2 /\ zeroOff A2 /\ l2=headL S M,0⟩) ?_ ?_
  ·intro mt76
   refine RN.go 4 (ow 0 16) λ _=>RN.cp (lplayer_any S (M.get 2) _ hSN) ?_
   have hb77:=playerAt_bd hSN (M.get 2)
   refine RN.go 8 [] λ _=>RN.em (playerAt S (M.get 2) >= 0) 44 (λ h78=>?_) λ h78=>?_
   ·refine RN.go 3 [] λ _=>RN.em (M.get 1=0) 47 (λ h79=>?_) λ h79=>?_
    ·refine RN.goP 16 [.nw] [I64 ((playerAt S (M.get 2))+4)] λ _=>RN.ct [] [0] (span_any l1 A1 c1 T1 (playerAt S (M.get 2)) 4 _ hs1 hz1 (by omega) (by omega) (by omega)) ?_
     rintro _ ⟨la80,Aa81,ca82,Ta83⟩ ⟨rfl,hsa84,hza85,e86⟩
     dsimp only at hsa84 hza85 e86
     have hnla80:la80.length=l1.length+4:=by rw [e86,List.length_append,rg_len]
     refine RN.go 2 [] λ _=>?_
     refine mt76 (la80,Aa81,ca82,Ta83) [0] [0,1] ?_
     try dsimp only
     refine ⟨hsa84,hza85,?_⟩
     unfold headL
     rw [if_pos (c:=_ /\ (_ \/ _)) (by omega)]
     rw [e86,el1]
    ·refine RN.go 4 [] λ _=>RN.em (M.get 1=1) 51 (λ h87=>?_) λ h87=>?_
     ·refine RN.goP 12 [.nw] [I64 ((playerAt S (M.get 2))+4)] λ _=>RN.ct [] [0] (span_any l1 A1 c1 T1 (playerAt S (M.get 2)) 4 _ hs1 hz1 (by omega) (by omega) (by omega)) ?_
      rintro _ ⟨la88,Aa89,ca90,Ta91⟩ ⟨rfl,hsa92,hza93,e94⟩
      dsimp only at hsa92 hza93 e94
      have hnla88:la88.length=l1.length+4:=by rw [e94,List.length_append,rg_len]
      refine RN.go 2 [] λ _=>?_
      refine mt76 (la88,Aa89,ca90,Ta91) [0] [0,1] ?_
      try dsimp only
      refine ⟨hsa92,hza93,?_⟩
      unfold headL
      rw [if_pos (c:=_ /\ (_ \/ _)) (by omega)]
      rw [e94,el1]
     ·refine RN.go 6 [] λ _=>RN.em (M.get 1=3) 55 (λ h95=>?_) λ h95=>?_
      ·refine RN.goP 6 [.nw] [I64 ((playerAt S (M.get 2))+4)] λ _=>RN.ct [] [0] (span_any l1 A1 c1 T1 (playerAt S (M.get 2)) 4 _ hs1 hz1 (by omega) (by omega) (by omega)) ?_
       rintro _ ⟨la96,Aa97,ca98,Ta99⟩ ⟨rfl,hsa100,hza101,e102⟩
       dsimp only at hsa100 hza101 e102
       have hnla96:la96.length=l1.length+4:=by rw [e102,List.length_append,rg_len]
       refine RN.go 2 [] λ _=>?_
       refine mt76 (la96,Aa97,ca98,Ta99) [0] [0,1] ?_
       try dsimp only
       refine ⟨hsa100,hza101,?_⟩
       unfold headL
       rw [if_pos (c:=_ /\ (_ \/ _)) (by omega)]
       rw [e102,el1]
      ·refine RN.go 2 [] λ _=>?_
       refine mt76 (l1,A1,c1,T1) [0] [0,1] ?_
       try dsimp only
       refine ⟨hs1,hz1,?_⟩
       unfold headL
       rw [if_neg (c:=_ /\ (_ \/ _)) (by omega)]
       rw [el1,List.append_nil]
   ·refine RN.go 15 [] λ _=>?_
    refine mt76 (l1,A1,c1,T1) [0] [0,1] ?_
    try dsimp only
    refine ⟨hs1,hz1,?_⟩
    unfold headL
    rw [if_neg (c:=_ /\ (_ \/ _)) (by omega)]
    rw [el1,List.append_nil]
  ·rintro ⟨l2,A2,c2,T2⟩ ⟨hs2,hz2,el2⟩
   have hlen2:l2.length <= 50:=by rw [el2];exact headL_len S M
   refine RN.go 2 [] λ _=>RN.cut (σ:=List Int × Option Addr × Nat × HL) (λ ⟨b2,B2,d2,U2⟩=>⟨[(3,vP (n1+0) 0),(5,vI (M.get 1)),(7,vI (M.get 3)),(8,.slice A2 l2.length c2),(9,.slice B2 b2.length d2)],[((n1+0),.lit (Setup.l S) 31 (0,0))],[T2,U2],SlIs intE 3 b2 B2 d2 U2 /\ zeroOff B2 /\ b2=b1++(if 3 <= M.get 1 /\ M.get 1 <= 7 then [M.get 2] else []),0⟩) ?_ ?_
   ·intro mt103
    refine RN.go 5 [] λ _=>RN.em (M.get 1 >= 3) 63 (λ h104=>?_) λ h104=>?_
    ·refine RN.go 5 [] λ _=>RN.em (M.get 1 <= 7) 66 (λ h105=>?_) λ h105=>?_
     ·refine RN.go 5 [] λ n106=>RN.app intEOk b1 [M.get 2] 1 0 rfl hsb1 (by show b1.length+1 <= 100000000;omega) ?_
      rintro A107 c108 T109 ⟨hs110,hz111⟩
      refine RN.sv 70 (congrArg (λ v_=>(.slice A107 v_ c108:Value)) (show b1.length+[M.get 2].length=(b1++[M.get 2]).length from by rw [List.length_append]))<|RN.go 2 [] λ _=>?_
      refine mt103 ((b1++[M.get 2]),A107,c108,T109) [1] [1,0] ?_
      try dsimp only
      refine ⟨hs110,(hz111 hzb1),?_⟩
      rw [if_pos (by omega)]
     ·refine RN.go 2 [] λ _=>?_
      refine mt103 (b1,B1,d1,U1) [0] [0,1] ?_
      try dsimp only
      refine ⟨hsb1,hzb1,?_⟩
      rw [if_neg (by omega),List.append_nil]
    ·refine RN.go 7 [] λ _=>?_
     refine mt103 (b1,B1,d1,U1) [0] [0,1] ?_
     try dsimp only
     refine ⟨hsb1,hzb1,?_⟩
     rw [if_neg (by omega),List.append_nil]
   ·rintro ⟨b2,B2,d2,U2⟩ ⟨hsb2,hzb2,eb2⟩
    have hlb2:b2.length <= 3:=by rw [eb2,List.length_append];split <;> simp <;> omega
    refine RN.go 2 [] λ _=>RN.cut (σ:=List Int × Option Addr × Nat × HL) (λ ⟨b3,B3,d3,U3⟩=>⟨[(3,vP (n1+0) 0),(8,.slice A2 l2.length c2),(9,.slice B3 b3.length d3)],[((n1+0),.lit (Setup.l S) 31 (0,0))],[T2,U3],SlIs intE 3 b3 B3 d3 U3 /\ zeroOff B3 /\ b3=b2++(if M.get 1=4 \/ M.get 1=5 then [M.get 3] else []),0⟩) ?_ ?_
    ·intro mt112
     refine RN.go 5 [] λ _=>RN.em (M.get 1=4) 73 (λ h113=>?_) λ h113=>?_
     ·refine RN.go 10 [] λ n114=>RN.app intEOk b2 [M.get 3] 1 0 rfl hsb2 (by show b2.length+1 <= 100000000;omega) ?_
      rintro A115 c116 T117 ⟨hs118,hz119⟩
      refine RN.sv 80 (congrArg (λ v_=>(.slice A115 v_ c116:Value)) (show b2.length+[M.get 3].length=(b2++[M.get 3]).length from by rw [List.length_append]))<|RN.go 2 [] λ _=>?_
      refine mt112 ((b2++[M.get 3]),A115,c116,T117) [1] [1,0] ?_
      try dsimp only
      refine ⟨hs118,(hz119 hzb2),?_⟩
      rw [if_pos (by omega)]
     ·refine RN.go 5 [] λ _=>RN.em (M.get 1=5) 76 (λ h120=>?_) λ h120=>?_
      ·refine RN.go 5 [] λ n121=>RN.app intEOk b2 [M.get 3] 1 0 rfl hsb2 (by show b2.length+1 <= 100000000;omega) ?_
       rintro A122 c123 T124 ⟨hs125,hz126⟩
       refine RN.sv 80 (congrArg (λ v_=>(.slice A122 v_ c123:Value)) (show b2.length+[M.get 3].length=(b2++[M.get 3]).length from by rw [List.length_append]))<|RN.go 2 [] λ _=>?_
       refine mt112 ((b2++[M.get 3]),A122,c123,T124) [1] [1,0] ?_
       try dsimp only
       refine ⟨hs125,(hz126 hzb2),?_⟩
       rw [if_pos (by omega)]
      ·refine RN.go 2 [] λ _=>?_
       refine mt112 (b2,B2,d2,U2) [0] [0,1] ?_
       try dsimp only
       refine ⟨hsb2,hzb2,?_⟩
       rw [if_neg (by omega),List.append_nil]
    ·rintro ⟨b3,B3,d3,U3⟩ ⟨hsb3,hzb3,eb3⟩
     have hlb3:b3.length <= 4:=by rw [eb3,List.length_append];split <;> simp <;> omega
     refine RN.go 4 [] λ _=>RN.ct [] [1] (sort_any b3 B3 d3 U3 _ hsb3 hzb3 (by omega)) ?_
     rintro _ T127 ⟨rfl,hs128⟩
     refine RN.go 6 [] λ _=>?_
     have hsl:=srt_len b3
     refine RN.ct [] [0] (lenE hsl (cmp_any (srt b3) B3 d3 T127 _ hs128 hzb3 (by omega))) ?_
     rintro _ T129 ⟨rfl,hs130⟩
     have hkl:=Lib.compact_length_le (srt b3)
     generalize hK:Lib.compact (srt b3)=K at *
     refine RN.go 5 [] λ _=>?_
     have hK4:K.length <= 4:=by omega
     have eK:K=Lib.compact (srt (bodsL M)):=by rw [<- hK,eb3,eb2,eb1];rfl
     refine RN.loop (σ:=Nat × List Int × Option Addr × Nat × HL) (λ ⟨r,l4,A4,c4,T4⟩=>⟨[(3,vP (n1+0) 0),(8,.slice A4 l4.length c4),(84,.slice B3 K.length d3),(85,vI (K.length:Int)),(86,vI (r:Int))],[((n1+0),.lit (Setup.l S) 31 (0,0))],[T4,T129],r <= K.length /\ SlIs intE 3 l4 A4 c4 T4 /\ zeroOff A4 /\ l4=headL S M++(K.take r).flatMap (bcT S),K.length - r⟩) (0,l2,A2,c2,T2) [0] [1,0] (⟨Nat.zero_le _,hs2,hz2,by rw [el2];simp⟩) ?_
     rintro ⟨r,l4,A4,c4,T4⟩ ⟨hr_,hs4,hz4,el4⟩ mt132
     have hlen4:l4.length <= 50+8 * r:=by have h1:=headL_len S M;have h2:=tk_len S K r;rw [el4,List.length_append];omega
     refine RN.go 6 [] λ _=>RN.em ((r:Int) < (K.length:Int)) 87 (λ h133=>?_) λ h133=>?_
     ·refine RN.go 7 [] λ _=>?_
      obtain ⟨kb,rest,rfl,rfl,hkc⟩:=hs130.openL hzb3 (by decide) (by omega)
      rw [List.length_append] at hkc
      refine RN.ot 1 (x:=(kb,.rows 1 d3 (rowE intE (K++rest)) 3 (0,0)))<|RN.goP 9 ([.ix r,.row 0 r 0]++ow 1 16) [(0+r * 1)=r * 1+0 /\ r < d3,(r:Int)=((r:Nat):Int) /\ r < K.length] λ _=>RN.cp (lbody_any S ((K++rest).getD r 0) _ hSN) ?_
      have hb134:=bodyAt_bd hSN ((K++rest).getD r 0)
      refine RN.go 9 [] λ _=>RN.em (bodyAt S ((K++rest).getD r 0) >= 0) 94 (λ h135=>?_) λ h135=>?_
      ·refine RN.goP 6 [.nw] [I64 ((bodyAt S ((K++rest).getD r 0))+8)] λ _=>RN.ct [] [0] (span_any l4 A4 c4 T4 (bodyAt S ((K++rest).getD r 0)) 8 _ hs4 hz4 (by omega) (by omega) (by omega)) ?_
       rintro _ ⟨la136,Aa137,ca138,Ta139⟩ ⟨rfl,hsa140,hza141,e142⟩
       dsimp only at hsa140 hza141 e142
       have hnla136:la136.length=l4.length+8:=by rw [e142,List.length_append,rg_len]
       refine RN.goP 8 [.nw] [I64 ((r:Int)+1)] λ _=>RN.ctl 0 ?_
       refine mt132 (r+1,la136,Aa137,ca138,Ta139) [0] [1,0] ?_
       try dsimp only
       refine ⟨⟨by omega,hsa140,hza141,?_⟩,by omega⟩
       rw [tk_succ S (rest:=rest) (by omega),<- List.append_assoc,<- el4]
       unfold bcT
       rw [if_pos (by omega)]
       exact e142
      ·refine RN.goP 8 [.nw] [I64 ((r:Int)+1)] λ _=>RN.ctl 0 ?_
       refine mt132 (r+1,l4,A4,c4,T4) [0] [1,0] ?_
       try dsimp only
       refine ⟨⟨by omega,hs4,hz4,?_⟩,by omega⟩
       rw [tk_succ S (rest:=rest) (by omega),<- List.append_assoc,<- el4]
       unfold bcT
       rw [if_neg (by omega)]
       rw [List.append_nil]
     ·refine RN.go 12 [] λ _=>RN.ret [] [] [0] (v:=.slice A4 l4.length c4) (H':=(ap [] [T4])) ?_
      obtain rfl:r=K.length:=by omega
      exact ⟨(l4,A4,c4,T4),rfl,rfl,hs4,hz4,by rw [el4,List.take_length,eK];rfl⟩
theorem tick_tkm {rs:List Bx} {ds:List Dr} {S:Setup} {bp gb mb b o N c k m:Nat} {j:Nat × Int} {full xs:List Inp} {M:MemS} {G0 F:HL} (hG:GameX rs ds bp gb mb S M (k+20000) G0) (hj:j.1 < 5) (hA:AtOk F bp (M.get 0) j) (hE:EffIn F) (hI:(b,.rows 3 N (inrow full) 151 (0,0)) ∈ F) (hir:o+xs.length <= N) (hni:xs.length <= 1000000) (hx:∀ k,k < xs.length -> full.getD (o+k) dI=xs.getD k dI) (hm:m <= 999) (hg:goodRun (gmX S j xs) (m+1) M) (hnow:0 <= M.get 0) (hok:wrongE S.players xs.length xs (M.get 0)=0) :
    Sp Tryz.prog 19 #[vP gb 0,vS b (o * 3) xs.length c] (ap [] [G0]) F (λ u H'=>∃ x:Value × HL × HL,H'=ap [] [x.2.1,x.2.2] /\ (GameX rs ds bp gb mb S (tkM (gmX S j xs) M) k x.2.1 /\ u=.tuple #[x.1,vI ((m+1:Nat):Int),vI 0])):=by
  obtain ⟨e1,e2⟩:=tk_of hm hg
  cases hG with
  | mk T U hM hU =>
    rw [ap_one]
    refine (tick_run S rs ds bp gb mb b o N xs.length c m k j full xs M T U F hj hA hU hE hI hir hni (by omega) rfl hx (hM.weak (by omega)) hnow hg hok).mono λ u H' h=>?_
    obtain ⟨x,rfl,h1,h2,h3⟩:=h
    rw [e1] at h1
    exact ⟨(_,ap [(gb,.lit (gameL S bp mb) 115 (0,0))] [x.1,U],x.2.2.2),by simp [ap],.mk x.1 U h1 hU,h3⟩
theorem hasL_run (A:Option Addr) (n cap:Nat) (es:List Int) (y:Int) (F:HL) (ha:RowL intE 3 F A n es) (hn:n <= 1000000) (hy:∃ j,j < n /\ es.getD j intE.dflt=y):Sp Tryz.prog 21 #[.slice A n cap,vI y] [] F (λ u H'=>u=.bool true /\ H'=[]):=by
  refine Sp.run Tryz.func21 rfl mn (A:=[]) (Ts:=[]) rfl λ w0=>?_
  refine RN.go 12 [] λ _=>RN.loop (σ:=Nat) (λ i=>⟨[(0,.slice A n cap),(1,vI y),(5,vI (i:Int))],[],[],i <= n /\ ∀ j,j < i -> ¬ es.getD j intE.dflt=y,n - i⟩) 0 [] [] (⟨Nat.zero_le _,λ j h=>absurd h (Nat.not_lt_zero _)⟩) ?_
  rintro i ⟨hi_,hx_⟩ mt2
  refine RN.go 9 [] λ _=>RN.em ((i:Int) < (n:Int)) 9 (λ h3=>?_) λ h3=>?_
  · refine RN.go 9 [] λ _=>?_
    obtain ⟨qx4,ox4,Nx4,fx4,fzx4,hAx4,hqx4,hox4,hgx4⟩:=ha.at (k:=i) (by omega)
    refine RN.sv 12 (congrArg (λ v_=>(.slice v_ n cap:Value)) hAx4)<|RN.ro (λ _=>(mc hqx4 mn))<|RN.goP 2 [.ix i,.rorow 0 (ox4+i) 0] [(ox4 * 1+i * 1)=(ox4+i) * 1+0 /\ (ox4+i) < Nx4,(i:Int)=((i:Nat):Int) /\ i < n] λ _=>RN.sv 15 (congrArg (λ v_=>(vI v_:Value)) hgx4)<|RN.go 4 [] λ _=>RN.em ((es.getD i intE.dflt)=y) 17 (λ h5=>?_) λ h5=>?_
    · refine RN.go 6 [] λ _=>RN.ret [] [] [] (v:=.bool true) (H':=[]) ?_
      exact ⟨rfl,rfl⟩
    · refine RN.goP 9 [.nw] [I64 ((i:Int)+1)] λ _=>?_
      refine mt2 (i+1) [] [] ?_
      try dsimp only
      refine ⟨⟨by omega,λ j h=>?_⟩,by omega⟩
      rcases Nat.lt_or_ge j i with h1 | h1
      · exact hx_ j h1
      · obtain rfl:j=i:=by omega
        exact h5
  · refine RN.go 11 [] λ _=>RN.ret [] [] [] (v:=.bool false) (H':=[]) ?_
    obtain ⟨j,h1,h2⟩:=hy
    exact absurd h2 (hx_ j (by omega))
theorem hasL_any {A:Option Addr} {n cap:Nat} {es:List Int} {y:Int} {F:HL} (ha:RowL intE 3 F A n es) (e:es.length=n) (hn:n <= 1000000) (hy:y ∈ es):Sp Tryz.prog 21 #[.slice A n cap,vI y] [] F (λ u H'=>u=.bool true /\ H'=[]):=by
  refine hasL_run A n cap es y F ha hn ?_
  obtain ⟨j,h1,h2⟩:=List.getElem_of_mem hy
  refine ⟨j,by omega,?_⟩
  rw [List.getD_eq_getElem?_getD,List.getElem?_eq_getElem h1]
  exact h2
structure Loc (D:Int -> Prop) (P:MemS -> MemS -> Prop):Prop where
  get:∀ {M N:MemS} {i:Int},D i -> P M N -> M.get i=N.get i
  set:∀ {M N:MemS} {i:Int} (v:Int),D i -> P M N -> P (M.set i v) (N.set i v)
  low:∀ i:Int,0 <= i -> i < 14 -> D i
abbrev DBd (D:Int -> Prop) (S:Setup) (k:Int):Prop:=0 <= bodyAt S k -> ∀ c:Int,0 <= c -> c < 8 -> D (bodyAt S k+c)
abbrev DPl (D:Int -> Prop) (S:Setup) (k:Int):Prop:=0 <= playerAt S k -> ∀ c:Int,0 <= c -> c < 4 -> D (playerAt S k+c)
abbrev DHi (D:Int -> Prop):Prop:=∀ i:Int,16 <= i -> i < 48 -> D i
section
variable {D:Int -> Prop} {P:MemS -> MemS -> Prop} {M N:MemS}
theorem lo_ite {c:Prop} [Decidable c] {A B A' B':MemS} (h1:c -> P A A') (h2:¬ c -> P B B'):P (if c then A else B) (if c then A' else B'):=by
  split
  · exact h1 (by assumption)
  · exact h2 (by assumption)
theorem Loc.s0 (h:Loc D P) (i v:Int) (hi:0 <= i /\ i < 14) (hp:P M N):P (M.set i v) (N.set i v):=h.set v (h.low i hi.1 hi.2) hp
theorem Loc.g0 (h:Loc D P) (i:Int) (hi:0 <= i /\ i < 14) (hp:P M N):M.get i=N.get i:=h.get (h.low i hi.1 hi.2) hp
theorem begin_lo (h:Loc D P) (t:Stp) (ph j:Int) (hp:P M N):P (beginM t ph j M) (beginM t ph j N):=h.s0 3 _ (by decide) (h.s0 2 _ (by decide) (h.s0 1 _ (by decide) hp))
theorem input_lo (h:Loc D P) (t:Stp) (hpl:DPl D t.S t.i) (hp:P M N):P (inputM t M) (inputM t N):=by
  unfold inputM
  have h1:P (inputA t M) (inputA t N):=by
    unfold inputA
    exact lo_ite (λ _=>h.s0 11 _ (by decide) (h.s0 13 _ (by decide) hp)) λ _=>hp
  generalize inputA t M=A at h1
  generalize inputA t N=B at h1
  have h2:P (inputB t A) (inputB t B):=by
    unfold inputB
    refine lo_ite (λ e=>lo_ite (λ _=>?_) λ _=>h1) λ _=>h1
    exact h.set _ (hpl e 2 (by decide) (by decide)) (h.set _ (hpl e 1 (by decide) (by decide)) (h.set _ (hpl e 0 (by decide) (by decide)) h1))
  unfold inputC
  exact lo_ite (λ _=>h.s0 2 _ (by decide) h2) λ _=>begin_lo h t 1 0 h2
theorem bd_nn {S:Setup} {k:Int} (hp:0 <= S.players) (h:0 <= k /\ k < S.nb):0 <= bodyAt S k:=by
  unfold bodyAt
  rw [if_neg (by omega),if_neg (by omega)]
  omega
theorem mot_lo (h:Loc D P) {S:Setup} {k:Int} (hb:∀ c:Int,0 <= c -> c < 8 -> D (bodyAt S k+c)) (hp:P M N):motM S M k=motM S N k:=by
  unfold motM
  rw [h.get (hb 0 (by decide) (by decide)) hp,h.get (hb 1 (by decide) (by decide)) hp,h.get (hb 2 (by decide) (by decide)) hp,h.get (hb 3 (by decide) (by decide)) hp]
theorem setMot_lo (h:Loc D P) {t:Stp} {k:Int} (hb:∀ c:Int,0 <= c -> c < 8 -> D (bodyAt t.S k+c)) (m:Mot) (hp:P M N):P (setMotM t k m M) (setMotM t k m N) :=
  h.set _ (hb 3 (by decide) (by decide)) (h.set _ (hb 2 (by decide) (by decide)) (h.set _ (hb 1 (by decide) (by decide)) (h.set _ (hb 0 (by decide) (by decide)) hp)))
theorem place_lo (h:Loc D P) (t:Stp) {c sp:Int} (pos lo hi:Int) (hc:D c) (hs:D sp) (hp:P M N):P (placeM t c sp pos lo hi M) (placeM t c sp pos lo hi N):=by
  have h1:=h.set (clampI pos lo hi) hc hp
  unfold placeM
  rw [h.get hs h1]
  exact lo_ite (λ _=>h1) λ _=>h.set _ hs h1
theorem travel_lo (h:Loc D P) (t:Stp) (hb:∀ c:Int,0 <= c -> c < 8 -> D (bodyAt t.S t.i+c)) (hp:P M N):P (travelM t M) (travelM t N):=by
  have e:travelP t M=travelP t N:=by
    unfold travelP travelF
    rw [mot_lo h hb hp,h.g0 5 (by decide) hp]
  unfold travelM
  rw [e]
  exact place_lo h t _ _ _ (hb 1 (by decide) (by decide)) (hb 3 (by decide) (by decide)) (place_lo h t _ _ _ (hb 0 (by decide) (by decide)) (hb 2 (by decide) (by decide)) hp)
theorem force_lo (h:Loc D P) (t:Stp) (hS:0 <= t.S.players) (hb:DBd D t.S t.i) (hpl:DPl D t.S t.i) (hp:P M N):P (forceM t M) (forceM t N):=by
  unfold forceM
  have h1:P (forceA t M) (forceA t N):=by
    unfold forceA
    exact lo_ite (λ e=>h.set _ (hb e 6 (by decide) (by decide)) hp) λ _=>hp
  generalize forceA t M=A at h1
  generalize forceA t N=B at h1
  have h2:P (forceB t A) (forceB t B):=by
    unfold forceB
    refine lo_ite (λ e=>?_) λ _=>h1
    have hb':=hb (bd_nn hS e.1)
    have e2:forceV t A=forceV t B:=by
      unfold forceV
      rw [mot_lo h hb' h1]
      split
      · next e3=>rw [h.get (hpl e3 0 (by decide) (by decide)) h1,h.get (hpl e3 1 (by decide) (by decide)) h1]
      · rfl
    rw [e2]
    exact h.set _ (hb' 3 (by decide) (by decide)) (h.set _ (hb' 2 (by decide) (by decide)) h1)
  unfold forceC
  exact lo_ite (λ _=>h.s0 2 _ (by decide) h2) λ _=>h.s0 4 _ (by decide) (begin_lo h t 4 1 h2)
theorem touch_lo (h:Loc D P) (t:Stp) (hS:0 <= t.S.players) (hi:DBd D t.S t.i) (hj:DBd D t.S t.j) (hp:P M N):P (touchF t M) (touchF t N):=by
  unfold touchF
  refine lo_ite (λ e1=>lo_ite (λ e2=>?_) λ _=>hp) λ _=>hp
  have hi':=hi (bd_nn hS e1)
  have hj':=hj (bd_nn hS e2)
  have c1:colT t M=colT t N:=by unfold colT;rw [mot_lo h hi' hp,mot_lo h hj' hp]
  have c2:resT t M=resT t N:=by unfold resT;rw [mot_lo h hi' hp,mot_lo h hj' hp,c1]
  rw [c1]
  refine lo_ite (λ _=>?_) λ _=>hp
  unfold touchSet
  rw [c2]
  exact h.set _ (hj' 6 (by decide) (by decide)) (h.set _ (hi' 6 (by decide) (by decide)) (setMot_lo h hj' _ (setMot_lo h hi' _ hp)))
theorem contact_lo (h:Loc D P) (t:Stp) (hS:0 <= t.S.players) (hi:DBd D t.S t.i) (hj:DBd D t.S t.j) (hp:P M N):P (contactF t M) (contactF t N):=by
  unfold contactF
  rw [h.g0 4 (by decide) hp]
  have h5:=h.s0 5 1024 (by decide) (begin_lo h t 5 0 hp)
  exact lo_ite (λ _=>h5) λ _=>lo_ite (λ _=>h5) λ _=>h.s0 3 _ (by decide) (h.s0 2 _ (by decide) (h.s0 4 _ (by decide) (touch_lo h t hS hi hj hp)))
theorem test_lo (h:Loc D P) (t:Stp) (hS:0 <= t.S.players) (hi:DBd D t.S t.i) (hj:DBd D t.S t.j) (hjs:0 <= t.j /\ t.j < t.S.nb) (hp:P M N):P (testF t M) (testF t N):=by
  unfold testF
  refine lo_ite (λ _=>hp) λ _=>lo_ite (λ e=>?_) λ _=>hp
  have c1:earT t M=earT t N:=by unfold earT;rw [mot_lo h (hi (bd_nn hS e.1)) hp,mot_lo h (hj (bd_nn hS hjs)) hp]
  rw [c1,h.g0 5 (by decide) hp]
  exact lo_ite (λ _=>h.s0 5 _ (by decide) hp) λ _=>hp
theorem move_lo (h:Loc D P) (t:Stp) (hS:0 <= t.S.players) (hi:DBd D t.S t.i) (hj:DBd D t.S t.j) (hp:P M N):P (moveF t M) (moveF t N):=by
  unfold moveF
  refine lo_ite (λ e=>h.s0 3 _ (by decide) (test_lo h t hS hi hj e hp)) λ _=>?_
  have h1:P (if movP t.S t.i then travelM t M else M) (if movP t.S t.i then travelM t N else N):=lo_ite (λ e=>travel_lo h t (hi (bd_nn hS e.1)) hp) λ _=>hp
  unfold moveA
  exact lo_ite (λ _=>h.s0 5 _ (by decide) (h.s0 3 _ (by decide) (h.s0 2 _ (by decide) h1))) λ _=>h.s0 5 _ (by decide) (begin_lo h t 6 0 h1)
theorem zero_lo (h:Loc D P) (hp:P M N):∀ n,n <= 10 -> P (zeroTo M n) (zeroTo N n)
  | 0,_=>hp
  | n+1,hn=>by
    rw [zeroTo,zeroTo]
    exact h.s0 _ _ (by omega) (zero_lo h hp n (by omega))
theorem rest_lo (h:Loc D P) (t:Stp) (hi:DBd D t.S t.i) (hp:P M N):P (restM t M) (restM t N):=by
  unfold restM
  have h1:P (restA t M) (restA t N):=by
    unfold restA
    refine lo_ite (λ e=>?_) λ _=>hp
    have hi':=hi e
    rw [h.get (hi' 2 (by decide) (by decide)) hp,h.get (hi' 3 (by decide) (by decide)) hp,h.get (hi' 7 (by decide) (by decide)) hp]
    exact h.set _ (hi' 7 (by decide) (by decide)) hp
  generalize restA t M=A at h1
  generalize restA t N=B at h1
  unfold restC
  rw [h.g0 0 (by decide) h1]
  exact lo_ite (λ _=>h.s0 2 _ (by decide) h1) λ _=>zero_lo h (h.s0 0 _ (by decide) h1) 10 (Nat.le_refl _)
def RP (P:MemS -> MemS -> Prop) (r s:VR):Prop:=P r.M s.M /\ r.v=s.v /\ r.e=s.e /\ r.em=s.em
theorem RP.ite {c:Prop} [Decidable c] {x y x' y':VR} (h1:c -> RP P x x') (h2:¬ c -> RP P y y'):RP P (if c then x else y) (if c then x' else y'):=by
  split
  · exact h1 (by assumption)
  · exact h2 (by assumption)
theorem RP.of {A B:MemS} (hp:P A B) {v v':Int} (e:v=v') {f:Eff} {b:Bool}:RP P ⟨A,v,f,b⟩ ⟨B,v',f,b⟩:=⟨hp,e,rfl,rfl⟩
theorem RP.m {r s:VR} (h:RP P r s) {v:Int}:RP P ⟨r.M,v,r.e,r.em⟩ ⟨s.M,v,s.e,s.em⟩:=⟨h.1,rfl,h.2.2.1,h.2.2.2⟩
theorem emit_lo (h:Loc D P) (k v:Int) (hp:P M N):RP P (emitV k v M) (emitV k v N):=by
  unfold emitV
  rw [h.g0 11 (by decide) hp,h.g0 12 (by decide) hp,h.g0 0 (by decide) hp]
  exact .ite (λ _=>.of hp rfl) λ _=>⟨h.s0 11 _ (by decide) (h.s0 12 _ (by decide) hp),rfl,rfl,rfl⟩
theorem bd_w {S:Setup} (hV:SetV S) {k n:Int} (h:0 <= bodyAt S k) (hn:0 <= n /\ n < 8):w64 (bodyAt S k+n)=bodyAt S k+n:=by
  have hp:=hV.pl
  have hb:=hV.nb
  rcases vbodyAt (S:=S) (by omega) k with e | ⟨_,_,e⟩
  · omega
  · exact w64_id (by omega)
theorem exec_lo (h:Loc D P) (hD:DHi D) {S:Setup} (hV:SetV S) {op n:Int} (a b:Int) (hn:eN op=0 \/ (0 <= n /\ n < eN op)) (ha:op=4 \/ op=5 -> DBd D S a) (hp:P M N):RP P (execV S op n a b M) (execV S op n a b N):=by
  have h16:op=2 \/ op=3 -> 0 <= n /\ n < 16:=by
    rintro (rfl | rfl) <;> exact hn.resolve_left (by decide)
  have h8:op=4 \/ op=5 -> 0 <= n /\ n < 8:=by
    rintro (rfl | rfl) <;> exact hn.resolve_left (by decide)
  unfold execV
  refine .ite (λ _=>.of hp rfl) λ _=>.ite (λ e=>.of hp ?_) λ _=>.ite (λ _=>.of hp (h.g0 9 (by decide) hp)) λ _=>.ite (λ _=>.of hp (h.g0 10 (by decide) hp)) λ _=>.ite (λ _=>.of hp (h.g0 0 (by decide) hp)) λ _=>?_
  · have:=h16 (.inl e)
    rw [w64_id (by omega)]
    exact h.get (hD _ (by omega) (by omega)) hp
  refine .ite (λ _=>.of hp rfl) λ _=>.ite (λ _=>.of hp rfl) λ _=>.ite (λ _=>.of hp rfl) λ _=>.ite (λ _=>.of hp rfl) λ _=>.ite (λ _=>.of hp rfl) λ _=>.ite (λ _=>.of hp rfl) λ _=>.ite (λ _=>.of hp rfl) λ _=>.ite (λ _=>.of hp rfl) λ _=>.ite (λ _=>.of hp rfl) λ _=>?_
  refine .ite (λ e=>?_) λ _=>.ite (λ e=>.of hp ?_) λ _=>.ite (λ e=>.of ?_ rfl) λ _=>?_
  · have:=h16 (.inr e)
    rw [w64_id (by omega)]
    exact .of (h.set _ (hD _ (by omega) (by omega)) hp) rfl
  · split
    · next e2 =>
      rw [bd_w hV e2 (h8 (.inl e))]
      exact h.get (ha (.inl e) e2 _ (h8 (.inl e)).1 (h8 (.inl e)).2) hp
    · rfl
  · refine lo_ite (λ e2=>?_) λ _=>hp
    rw [bd_w hV e2 (h8 (.inr e))]
    exact h.set _ (ha (.inr e) e2 _ (h8 (.inr e)).1 (h8 (.inr e)).2) hp
  refine .ite (λ _=>.of (h.s0 6 _ (by decide) hp) rfl) λ _=>.ite (λ _=>.of (lo_ite (λ _=>h.s0 6 _ (by decide) hp) λ _=>hp) rfl) λ _=>.ite (λ _=>?_) λ _=>.of hp rfl
  exact (emit_lo h a b hp).m
theorem step_lo (h:Loc D P) (hD:DHi D) {S:Setup} (hV:SetV S) (code:List Ins) (n:Nat) (hop:∀ k:Int,1 <= k -> k <= 2 -> 0 <= M.get 7 - k -> M.get 7 - k < 16 -> DBd D S (M.get (16+(M.get 7 - k)))) (hp:P M N):RP P (stepV S code n M) (stepV S code n N):=by
  have e6:=h.g0 6 (by decide) hp
  have e7:=h.g0 7 (by decide) hp
  have e8:=h.g0 8 (by decide) hp
  have er:runsV code n M ↔ runsV code n N:=by unfold runsV codeA;rw [e6,e7,e8]
  unfold stepV
  by_cases hr:runsV code n M
  · rw [if_pos hr,if_pos (er.1 hr)]
    have hc:codeA code M=codeA code N:=by unfold codeA;rw [e6]
    rw [<- hc,<- e6,<- e7,<- e8]
    obtain ⟨_,_,_,hx⟩:=hr
    obtain ⟨hop1,hsp,hps,hq,hn⟩:=exeOk_of hx
    have heb:=e_bd hop1
    generalize (codeA code M).op=op at *
    generalize (codeA code M).n=k at *
    have hs:w64 (M.get 7 - eP op)=M.get 7 - eP op:=w64_id (by omega)
    have hs1:w64 (16+M.get 7)=16+M.get 7:=w64_id (by omega)
    have hs2:w64 (16+M.get 7 - eP op)=16+M.get 7 - eP op:=w64_id (by omega)
    have hs3:w64 (16+M.get 7 - eP op+1)=16+M.get 7 - eP op+1:=w64_id (by omega)
    rw [hs] at hq
    have hs4:w64 (M.get 7 - eP op+eQ op)=M.get 7 - eP op+eQ op:=w64_id (by omega)
    rw [hs4] at hq
    have ha:popA op (M.get 7) M=popA op (M.get 7) N:=by
      unfold popA
      rw [hs1,hs2]
      split
      · exact h.get (hD _ (by omega) (by omega)) hp
      · split
        · exact h.get (hD _ (by omega) (by omega)) hp
        · rfl
    have hb:popB op (M.get 7) M=popB op (M.get 7) N:=by
      unfold popB
      rw [hs1,hs2,hs3]
      split
      · exact h.get (hD _ (by omega) (by omega)) hp
      · rfl
    have hm:P (memP op (M.get 7) (M.get 6) (M.get 8) M) (memP op (M.get 7) (M.get 6) (M.get 8) N):=by
      unfold memP
      exact lo_ite (λ _=>h.s0 6 _ (by decide) (h.s0 8 _ (by decide) hp)) λ _=>h.s0 7 _ (by decide) (h.s0 6 _ (by decide) (h.s0 8 _ (by decide) hp))
    have hD4:op=4 \/ op=5 -> DBd D S (popA op (M.get 7) M):=by
      rintro (rfl | rfl)
      · have e1:eP 4=1:=by decide
        have:=hop 1 (by decide) (by decide) (by omega) (by omega)
        unfold popA
        rw [hs1,hs2,e1]
        rw [if_neg (by decide),if_pos rfl]
        rwa [show 16+M.get 7 - 1=16+(M.get 7 - 1) by omega]
      · have e1:eP 5=2:=by decide
        have:=hop 2 (by decide) (by decide) (by omega) (by omega)
        unfold popA
        rw [hs1,hs2,e1]
        rw [if_pos rfl]
        rwa [show 16+M.get 7 - 2=16+(M.get 7 - 2) by omega]
    have hst:RP P (stepI S op k (M.get 7) (M.get 6) (M.get 8) M) (stepI S op k (M.get 7) (M.get 6) (M.get 8) N):=by
      unfold stepI
      rw [<- ha,<- hb]
      exact exec_lo h hD hV _ _ hn hD4 hm
    unfold pushV
    rw [hs1,hs2]
    refine .ite (λ e=>?_) λ _=>hst
    refine ⟨?_,hst.2.1,hst.2.2.1,hst.2.2.2⟩
    rw [hst.2.1]
    exact h.set _ (hD _ (by omega) (by omega)) hst.1
  · rw [if_neg hr,if_neg λ e=>hr (er.2 e)]
    exact .of hp rfl
theorem end_lo (h:Loc D P) (code:List Ins) (n:Nat) (hp:P M N):endV code n M=endV code n N:=by
  have hc:codeA code M=codeA code N:=by unfold codeA;rw [h.g0 6 (by decide) hp]
  have er:runsV code n M ↔ runsV code n N:=by unfold runsV codeA;rw [h.g0 6 (by decide) hp,h.g0 7 (by decide) hp,h.g0 8 (by decide) hp]
  unfold endV
  by_cases hr:runsV code n M
  · rw [if_pos hr,if_pos (er.1 hr),hc]
  · rw [if_neg hr,if_neg λ e=>hr (er.2 e)]
theorem start_lo (h:Loc D P) (e f a b:Int) (hp:P M N):P (startV e f a b M) (startV e f a b N):=by
  unfold startV
  exact lo_ite (λ _=>hp) λ _=>h.s0 10 _ (by decide) (h.s0 9 _ (by decide) (h.s0 8 _ (by decide) (h.s0 7 _ (by decide) (h.s0 6 _ (by decide) hp))))
theorem run_lo (h:Loc D P) (hD:DHi D) (e:Int) (t:Stp) (hV:SetV t.S) (hop:∀ k:Int,1 <= k -> k <= 2 -> 0 <= M.get 7 - k -> M.get 7 - k < 16 -> DBd D t.S (M.get (16+(M.get 7 - k)))) (a b:Int) (hp:P M N):RP P (runV e t a b M) (runV e t a b N) /\ runE e t a b M=runE e t a b N:=by
  have h1:=start_lo h e t.S.fuel a b hp
  constructor
  · unfold runV
    exact .ite (λ _=>.ite (λ _=>.of h1 rfl) λ _=>.of (h.s0 3 _ (by decide) h1) rfl) λ _=>(step_lo h hD hV t.code t.cn hop hp).m
  · unfold runE
    rw [end_lo h t.code t.cn hp]
theorem turn_lo (h:Loc D P) {r s:VR} (hr:RP P r s) (over:Bool) (t:Stp) (cause:Bool) (hp:P M N):RP P (turnV r over t cause M) (turnV s over t cause N):=by
  have h2:RP P ⟨r.M,0,r.e,r.em⟩ ⟨s.M,0,s.e,s.em⟩:=hr.m
  unfold turnV
  refine .ite (λ _=>.ite (λ _=>.ite (λ _=>?_) λ _=>h2) λ _=>.of (h.s0 2 _ (by decide) hp) rfl) λ _=>.ite (λ _=>?_) λ _=>h2
  · exact ⟨h.s0 2 _ (by decide) hr.1,rfl,hr.2.2.1,hr.2.2.2⟩
  · exact ⟨h.s0 2 _ (by decide) (h.s0 3 _ (by decide) hr.1),rfl,hr.2.2.1,hr.2.2.2⟩
theorem act_lo (h:Loc D P) (hD:DHi D) (t:Stp) (hV:SetV t.S) (hpl:DPl D t.S t.i) (hop:∀ k:Int,1 <= k -> k <= 2 -> 0 <= M.get 7 - k -> M.get 7 - k < 16 -> DBd D t.S (M.get (16+(M.get 7 - k)))) (hp:P M N):RP P (actV t M) (actV t N):=by
  unfold actV
  refine .ite (λ _=>.of (begin_lo h t 2 0 hp) rfl) λ e=>?_
  rw [h.get (hpl (by omega) 2 (by decide) (by decide)) hp]
  obtain ⟨h1,h2⟩:=run_lo h hD t.e0 t hV hop t.i (N.get (playerAt t.S t.i+2)) hp
  have h3:=turn_lo h h1 (runE t.e0 t t.i (N.get (playerAt t.S t.i+2)) N) t (!decide (N.get (playerAt t.S t.i+2)=0)) hp
  unfold turn0 run0 end0
  rw [h2]
  exact h3.m
theorem hit_lo (h:Loc D P) (hD:DHi D) (t:Stp) (hV:SetV t.S) (hb:DBd D t.S t.i) (hop:∀ k:Int,1 <= k -> k <= 2 -> 0 <= M.get 7 - k -> M.get 7 - k < 16 -> DBd D t.S (M.get (16+(M.get 7 - k)))) (hp:P M N):RP P (hitV t M) (hitV t N):=by
  unfold hitV
  refine .ite (λ _=>.of (begin_lo h t 7 0 hp) rfl) λ e=>?_
  rw [h.get (hb (by omega) 6 (by decide) (by decide)) hp]
  obtain ⟨h1,h2⟩:=run_lo h hD t.e2 t hV hop t.i (w64 (N.get (bodyAt t.S t.i+6) - 1)) hp
  have h3:=turn_lo h h1 (runE t.e2 t t.i (w64 (N.get (bodyAt t.S t.i+6) - 1)) N) t (!decide (N.get (bodyAt t.S t.i+6)=0)) hp
  unfold turn2 run2 end2
  rw [h2]
  exact h3.m
theorem tick_lo (h:Loc D P) (hD:DHi D) (t:Stp) (hV:SetV t.S) (hop:∀ k:Int,1 <= k -> k <= 2 -> 0 <= M.get 7 - k -> M.get 7 - k < 16 -> DBd D t.S (M.get (16+(M.get 7 - k)))) (hp:P M N):RP P (tickV t M) (tickV t N):=by
  obtain ⟨h1,h2⟩:=run_lo h hD t.e1 t hV hop 0 0 hp
  unfold tickV run1 end1
  rw [h2]
  exact .ite (λ _=>⟨begin_lo h t 3 0 h1.1,rfl,h1.2.2.1,h1.2.2.2⟩) λ _=>h1.m
end
theorem tou_mem {S:Setup} {M:MemS} {y:Int}:y ∈ touL S M ↔ (((0 <= y /\ y < 14) \/ ((M.get 1=1 \/ M.get 1=2 \/ M.get 1=6) /\ (16 <= y /\ y < 48))) \/ ((M.get 1=0 \/ M.get 1=1 \/ M.get 1=3) /\ 0 <= playerAt S (M.get 2) /\ playerAt S (M.get 2) <= y /\ y < playerAt S (M.get 2)+4)) \/ ∃ b,b ∈ bodsL M /\ 0 <= bodyAt S b /\ bodyAt S b <= y /\ y < bodyAt S b+8:=by
  unfold touL headL
  rw [List.mem_append,List.mem_append,List.mem_append,List.mem_flatMap]
  refine or_congr (or_congr (or_congr ?_ ?_) ?_) ?_
  · rw [rg_mem];constructor <;> (intro h;omega)
  · by_cases h:M.get 1=1 \/ M.get 1=2 \/ M.get 1=6
    · rw [if_pos h,List.mem_append,rg_mem,rg_mem]
      exact ⟨λ h2=>⟨h,by omega⟩,λ h2=>by have:=h2.2;omega⟩
    · rw [if_neg h]
      exact ⟨λ h2=>absurd h2 List.not_mem_nil,λ h2=>absurd h2.1 h⟩
  · by_cases h:0 <= playerAt S (M.get 2) /\ (M.get 1=0 \/ M.get 1=1 \/ M.get 1=3)
    · rw [if_pos h,rg_mem]
      exact ⟨λ h2=>⟨h.2,h.1,h2.1,by have:=h2.2;omega⟩,λ h2=>⟨h2.2.2.1,by have:=h2.2.2.2;omega⟩⟩
    · rw [if_neg h]
      exact ⟨λ h2=>absurd h2 List.not_mem_nil,λ h2=>absurd ⟨h2.2.1,h2.1⟩ h⟩
  · have hb:∀ b,y ∈ bcT S b ↔ 0 <= bodyAt S b /\ bodyAt S b <= y /\ y < bodyAt S b+8:=λ b=>by
      unfold bcT
      split
      · rw [rg_mem];constructor <;> (intro h;omega)
      · exact ⟨λ h=>absurd h List.not_mem_nil,λ h=>by omega⟩
    constructor
    · rintro ⟨b,hb1,hy⟩;exact ⟨b,srt_mem.1 (cmp_mem.1 hb1),(hb b).1 hy⟩
    · rintro ⟨b,hb1,hy⟩;exact ⟨b,cmp_mem.2 (srt_mem.2 hb1),(hb b).2 hy⟩
theorem tr_lo {P:MemS -> MemS -> Prop} {g:Gm} (hV:SetV g.S) {M N:MemS} (h:Loc (λ y=>y ∈ touL g.S M) P) (hp:P M N) (hph:phOk M):RP P (trV g M) (trV g N) /\ trE g M=trE g N:=by
  have hV1:=hV.pl
  have hS:0 <= g.S.players:=by omega
  have e1:=h.g0 1 (by decide) hp
  have e2:=h.g0 2 (by decide) hp
  have e3:=h.g0 3 (by decide) hp
  have et:g.step M=g.step N:=by unfold Gm.step;rw [e2,e3]
  have hbd:∀ b,b ∈ bodsL M -> DBd (λ y=>y ∈ touL g.S M) g.S b:=λ b hb h0 c c0 c8=>tou_mem.2 (.inr ⟨b,hb,h0,by omega,by omega⟩)
  have hi:3 <= M.get 1 -> DBd (λ y=>y ∈ touL g.S M) g.S (M.get 2):=λ h3=>hbd _ (by
    unfold bodsL
    rw [List.mem_append,List.mem_append,if_pos (c:=3 <= M.get 1 /\ M.get 1 <= 7) ⟨h3,hph.2⟩]
    exact .inl (.inr (List.mem_singleton.2 rfl)))
  have hj:M.get 1=4 \/ M.get 1=5 -> DBd (λ y=>y ∈ touL g.S M) g.S (M.get 3):=λ h3=>hbd _ (by
    unfold bodsL
    rw [List.mem_append,if_pos h3]
    exact .inr (List.mem_singleton.2 rfl))
  have hpl:M.get 1=0 \/ M.get 1=1 \/ M.get 1=3 -> DPl (λ y=>y ∈ touL g.S M) g.S (M.get 2):=λ h3 h0 c c0 c4=>tou_mem.2 (.inl (.inr ⟨h3,h0,by omega,by omega⟩))
  have hD:M.get 1=1 \/ M.get 1=2 \/ M.get 1=6 -> DHi (λ y=>y ∈ touL g.S M):=λ h3 i h0 h1=>tou_mem.2 (.inl (.inl (.inr ⟨h3,h0,h1⟩)))
  have hop:M.get 1=1 \/ M.get 1=2 \/ M.get 1=6 -> ∀ k:Int,1 <= k -> k <= 2 -> 0 <= M.get 7 - k -> M.get 7 - k < 16 -> DBd (λ y=>y ∈ touL g.S M) g.S (M.get (16+(M.get 7 - k))):=λ h3 k k1 k2 h0 h1=>hbd _ (by
    have hk:M.get (16+(M.get 7 - k)) ∈ opl M k:=by
      unfold opl
      rw [show IntKind.i64.wrap (M.get 7 - k)=M.get 7 - k from w64_id (by omega),if_pos ⟨h0,h1⟩]
      exact List.mem_singleton.2 rfl
    unfold bodsL operL
    rw [List.mem_append,List.mem_append,if_pos h3,List.mem_append]
    refine .inl (.inl ?_)
    rcases (show k=1 \/ k=2 by omega) with rfl | rfl
    · exact .inl hk
    · exact .inr hk)
  constructor
  · unfold trV
    rw [<- et,<- e1]
    have mk:∀ {A B:MemS},P A B -> RP P ⟨A,0,eff0,false⟩ ⟨B,0,eff0,false⟩:=λ h=>.of h rfl
    refine .ite (λ e=>mk (input_lo h (g.step M) (hpl (.inl e)) hp)) λ h0=>.ite (λ e=>act_lo h (hD (.inl e)) (g.step M) hV (hpl (.inr (.inl e))) (hop (.inl e)) hp) λ h1=>.ite (λ e=>tick_lo h (hD (.inr (.inl e))) (g.step M) hV (hop (.inr (.inl e))) hp) λ h2=>.ite (λ e=>mk (force_lo h (g.step M) hS (hi (by omega)) (hpl (.inr (.inr e))) hp)) λ h3=>.ite (λ e=>mk (contact_lo h (g.step M) hS (hi (by omega)) (hj (.inl e)) hp)) λ h4=>.ite (λ e=>mk (move_lo h (g.step M) hS (hi (by omega)) (hj (.inr e)) hp)) λ h5=>.ite (λ e=>hit_lo h (hD (.inr (.inr e))) (g.step M) hV (hi (by omega)) (hop (.inr (.inr e))) hp) λ h6=>mk (rest_lo h (g.step M) (hi ?_) hp)
    have:=hph.1
    omega
  · unfold trE
    rw [<- et,<- e1]
theorem tr_keep {g:Gm} (hV:SetV g.S) {M:MemS} (hph:phOk M) {y:Int} (hy:¬ y ∈ touL g.S M):(trM g M).get y=M.get y:=by
  have key:Loc (λ y=>y ∈ touL g.S M) (λ A B=>A=B /\ A.get y=M.get y):=by
    refine ⟨λ _ h=>by rw [h.1],λ {A B i} v hi h=>⟨by rw [h.1],?_⟩,λ i h0 h1=>tou_mem.2 (.inl (.inl (.inl ⟨h0,h1⟩)))⟩
    rw [vget_ne (λ e=>hy (by rw [e];exact hi))]
    exact h.2
  exact (tr_lo hV key ⟨rfl,rfl⟩ hph).1.1.2
end Go.Proofs.YtghjbimijeinfaaGreatDoor
