import Derived.Test.YtkhifpbokgabbaaGreatDoorW28
import Derived.Test.YtkhifpbokgabbaaGreatDoorW27
set_option maxHeartbeats 4000000
set_option maxRecDepth 100000
set_option linter.unusedSimpArgs false
set_option linter.unusedVariables false
namespace Go.Proofs.YtkhifpbokgabbaaGreatDoor
open Go.RowKit
def bodsL (M:MemS):List Int:=((if M.get 1=1 \/ M.get 1=2 \/ M.get 1=6 then operL M else [])++(if 3 <= M.get 1 /\ M.get 1 <= 7 then [M.get 2] else []))++(if M.get 1=4 \/ M.get 1=5 then [M.get 3] else [])
def headL (S:Setup) (M:MemS):List Int:=(rg 0 14++(if M.get 1=1 \/ M.get 1=2 \/ M.get 1=6 then rg 16 16++rg 32 16 else []))++(if 0 <= playerAt S (M.get 2) /\ (M.get 1=0 \/ M.get 1=1 \/ M.get 1=3) then rg (playerAt S (M.get 2)) 4 else [])
def bcT (S:Setup) (b:Int):List Int:=if 0 <= bodyAt S b then rg (bodyAt S b) 8 else []
def touL (S:Setup) (M:MemS):List Int:=headL S M++(Lib.compact (srt (bodsL M))).flatMap (bcT S)
theorem headL_len (S:Setup) (M:MemS):(headL S M).length <= 50:=by
 unfold headL
 rw [List.length_append,List.length_append,rg_len]
 split <;> split <;> simp [rg_len]
theorem bcT_len (S:Setup) (b:Int):(bcT S b).length <= 8:=by unfold bcT;split <;> simp [rg_len]
theorem tk_len (S:Setup):∀ (K:List Int) (r:Nat),((K.take r).flatMap (bcT S)).length <= 8 * r
 | [],r=>by simp
 | x :: K,0=>by simp
 | x :: K,r+1=>by
  have:=tk_len S K r
  have:=bcT_len S x
  simp only [List.take_succ_cons,List.flatMap_cons,List.length_append]
  omega
theorem tk_succ (S:Setup) {K rest:List Int} {r:Nat} (h:r < K.length):(K.take (r+1)).flatMap (bcT S)=(K.take r).flatMap (bcT S)++bcT S ((K++rest).getD r 0):=by
 rw [List.take_succ_eq_append_getElem h,List.flatMap_append,List.getD_eq_getElem?_getD,List.getElem?_append_left h,List.getElem?_eq_getElem h]
 simp
theorem bodsL_len (M:MemS):(bodsL M).length <= 4:=by
 have:=operL_len M
 unfold bodsL
 rw [List.length_append,List.length_append]
 split <;> split <;> split <;> simp <;> omega
theorem lenE {P:Program} {f:FuncId} {A:Option Addr} {c n m:Nat} {H F:HL} {R:Value -> HL -> Prop} (e:m=n) (h:Sp P f #[.slice A m c] H F R):Sp P f #[.slice A n c] H F R:=e ▸ h
theorem touches_any (mb k:Nat) (M:MemS) (S:Setup) (T F:HL) (hSN:SetN S) (h:MemH mb M k T) (hT:∀ x ∈ T,x ∈ F):Sp Tryz.prog 8 #[.iface 44 (vP mb 0),(Setup.v S)] [] F (λ u H'=>∃ x:List Int × Option Addr × Nat × HL,H'=ap [] [x.2.2.2] /\ (u=.slice x.2.1 x.1.length x.2.2.1 /\ SlIs intE 3 x.1 x.2.1 x.2.2.1 x.2.2.2 /\ zeroOff x.2.1 /\ x.1=touL S M)):=by
 refine Sp.run Tryz.func8 rfl mn (A:=[]) (Ts:=[]) rfl λ w0=>?_
 refine RN.go 19 [] λ n1=>RN.cp (get_any 1 h trivial (λ x hx=>ro_ap (hT x hx)))<|RN.go 1 [] λ _=>RN.cp (get_any 2 h trivial (λ x hx=>ro_ap (hT x hx)))<|RN.go 1 [] λ _=>RN.cp (get_any 3 h trivial (λ x hx=>ro_ap (hT x hx)))<|RN.go 7 [] λ _=>RN.nt<|RN.ct [] [0] (span_any [] none 0 ([]:HL) 0 14 _ (SlIs.nil _ _) trivial (Nat.zero_le _) (by omega) (by omega)) ?_
 rintro _ ⟨la2,Aa3,ca4,Ta5⟩ ⟨rfl,hsa6,hza7,e8⟩
 dsimp only at hsa6 hza7 e8
 have hnla2:la2.length=0+14:=by rw [e8,List.length_append,rg_len];rfl
 refine RN.go 9 [] λ _=>RN.cut (σ:=List Int × Option Addr × Nat × HL × List Int × Option Addr × Nat × HL) (λ ⟨l1,A1,c1,T1,b1,B1,d1,U1⟩=>⟨[(3,vP (n1+0) 0),(5,vI (M.get 1)),(6,vI (M.get 2)),(7,vI (M.get 3)),(8,.slice A1 l1.length c1),(9,.slice B1 b1.length d1)],[((n1+0),.lit (Setup.l S) 31 (0,0))],[T1,U1],SlIs intE 3 l1 A1 c1 T1 /\ zeroOff A1 /\ SlIs intE 3 b1 B1 d1 U1 /\ zeroOff B1 /\ l1=rg 0 14++(if M.get 1=1 \/ M.get 1=2 \/ M.get 1=6 then rg 16 16++rg 32 16 else []) /\ b1=(if M.get 1=1 \/ M.get 1=2 \/ M.get 1=6 then operL M else []),0⟩) ?_ ?_
 ·intro mt9
  refine RN.go 5 [] λ _=>RN.em (M.get 1=1) 25 (λ h10=>?_) λ h10=>?_
  ·refine RN.go 13 [] λ _=>RN.ct [] [0] (span_any la2 Aa3 ca4 Ta5 16 16 _ hsa6 hza7 (by omega) (by omega) (by omega)) ?_
   rintro _ ⟨la11,Aa12,ca13,Ta14⟩ ⟨rfl,hsa15,hza16,e17⟩
   dsimp only at hsa15 hza16 e17
   have hnla11:la11.length=la2.length+16:=by rw [e17,List.length_append,rg_len]
   refine RN.go 6 [] λ _=>RN.ct [] [0] (span_any la11 Aa12 ca13 Ta14 32 16 _ hsa15 hza16 (by omega) (by omega) (by omega)) ?_
   rintro _ ⟨la18,Aa19,ca20,Ta21⟩ ⟨rfl,hsa22,hza23,e24⟩
   dsimp only at hsa22 hza23 e24
   have hnla18:la18.length=la11.length+16:=by rw [e24,List.length_append,rg_len]
   refine RN.go 5 [] λ _=>RN.ct (Hp:=[]) (Tp:=[]) [] [] (opers_any mb k M T _ h (λ x hx=>ro_ap (hT x hx))) ?_
   rintro _ ⟨ba25,Aa26,ca27,Ta28⟩ ⟨rfl,hsa29,hza30,e31⟩
   dsimp only at hsa29 hza30 e31
   refine RN.go 2 [] λ _=>?_
   refine mt9 (la18,Aa19,ca20,Ta21,ba25,Aa26,ca27,Ta28) [0] [1,0] ?_
   try dsimp only
   refine ⟨hsa22,hza23,hsa29,hza30,?_,?_⟩
   ·rw [if_pos (by omega)];simp [e8,e17,e24]
   ·rw [if_pos (by omega)];exact e31
  ·refine RN.go 4 [] λ _=>RN.em (M.get 1=2) 29 (λ h32=>?_) λ h32=>?_
   ·refine RN.go 9 [] λ _=>RN.ct [] [0] (span_any la2 Aa3 ca4 Ta5 16 16 _ hsa6 hza7 (by omega) (by omega) (by omega)) ?_
    rintro _ ⟨la33,Aa34,ca35,Ta36⟩ ⟨rfl,hsa37,hza38,e39⟩
    dsimp only at hsa37 hza38 e39
    have hnla33:la33.length=la2.length+16:=by rw [e39,List.length_append,rg_len]
    refine RN.go 6 [] λ _=>RN.ct [] [0] (span_any la33 Aa34 ca35 Ta36 32 16 _ hsa37 hza38 (by omega) (by omega) (by omega)) ?_
    rintro _ ⟨la40,Aa41,ca42,Ta43⟩ ⟨rfl,hsa44,hza45,e46⟩
    dsimp only at hsa44 hza45 e46
    have hnla40:la40.length=la33.length+16:=by rw [e46,List.length_append,rg_len]
    refine RN.go 5 [] λ _=>RN.ct (Hp:=[]) (Tp:=[]) [] [] (opers_any mb k M T _ h (λ x hx=>ro_ap (hT x hx))) ?_
    rintro _ ⟨ba47,Aa48,ca49,Ta50⟩ ⟨rfl,hsa51,hza52,e53⟩
    dsimp only at hsa51 hza52 e53
    refine RN.go 2 [] λ _=>?_
    refine mt9 (la40,Aa41,ca42,Ta43,ba47,Aa48,ca49,Ta50) [0] [1,0] ?_
    try dsimp only
    refine ⟨hsa44,hza45,hsa51,hza52,?_,?_⟩
    ·rw [if_pos (by omega)];simp [e8,e39,e46]
    ·rw [if_pos (by omega)];exact e53
   ·refine RN.go 5 [] λ _=>RN.em (M.get 1=6) 32 (λ h54=>?_) λ h54=>?_
    ·refine RN.go 4 [] λ _=>RN.ct [] [0] (span_any la2 Aa3 ca4 Ta5 16 16 _ hsa6 hza7 (by omega) (by omega) (by omega)) ?_
     rintro _ ⟨la55,Aa56,ca57,Ta58⟩ ⟨rfl,hsa59,hza60,e61⟩
     dsimp only at hsa59 hza60 e61
     have hnla55:la55.length=la2.length+16:=by rw [e61,List.length_append,rg_len]
     refine RN.go 6 [] λ _=>RN.ct [] [0] (span_any la55 Aa56 ca57 Ta58 32 16 _ hsa59 hza60 (by omega) (by omega) (by omega)) ?_
     rintro _ ⟨la62,Aa63,ca64,Ta65⟩ ⟨rfl,hsa66,hza67,e68⟩
     dsimp only at hsa66 hza67 e68
     have hnla62:la62.length=la55.length+16:=by rw [e68,List.length_append,rg_len]
     refine RN.go 5 [] λ _=>RN.ct (Hp:=[]) (Tp:=[]) [] [] (opers_any mb k M T _ h (λ x hx=>ro_ap (hT x hx))) ?_
     rintro _ ⟨ba69,Aa70,ca71,Ta72⟩ ⟨rfl,hsa73,hza74,e75⟩
     dsimp only at hsa73 hza74 e75
     refine RN.go 2 [] λ _=>?_
     refine mt9 (la62,Aa63,ca64,Ta65,ba69,Aa70,ca71,Ta72) [0] [1,0] ?_
     try dsimp only
     refine ⟨hsa66,hza67,hsa73,hza74,?_,?_⟩
     ·rw [if_pos (by omega)];simp [e8,e61,e68]
     ·rw [if_pos (by omega)];exact e75
    ·refine RN.go 2 [] λ _=>RN.nt ?_
     refine mt9 (la2,Aa3,ca4,Ta5,[],none,0,([]:HL)) [0] [1,0] ?_
     try dsimp only
     refine ⟨hsa6,hza7,(SlIs.nil _ _),trivial,?_,?_⟩
     ·rw [if_neg (by omega)];simp [e8]
     ·rw [if_neg (by omega)]
 ·rintro ⟨l1,A1,c1,T1,b1,B1,d1,U1⟩ ⟨hs1,hz1,hsb1,hzb1,el1,eb1⟩
  have hlen1:l1.length <= 46:=by rw [el1];split <;> simp [rg_len]
  have hlb1:b1.length <= 2:=by have:=operL_len M;rw [eb1];split <;> simp <;> omega
  refine RN.go 2 [] λ _=>RN.cut (σ:=List Int × Option Addr × Nat × HL) (λ ⟨l2,A2,c2,T2⟩=>⟨[(3,vP (n1+0) 0),(5,vI (M.get 1)),(6,vI (M.get 2)),(7,vI (M.get 3)),(8,.slice A2 l2.length c2),(9,.slice B1 b1.length d1)],[((n1+0),.lit (Setup.l S) 31 (0,0))],[T2,U1],SlIs intE 3 l2 A2 c2 T2 /\ zeroOff A2 /\ l2=headL S M,0⟩) ?_ ?_
  ·intro mt76
   refine RN.go 4 (ow 0 16) λ _=>RN.cp (lplayer_any S (M.get 2) _ hSN) ?_
   have hb77:=playerAt_bd hSN (M.get 2)
   refine RN.go 8 [] λ _=>RN.em (playerAt S (M.get 2) >= 0) 44 (λ h78=>?_) λ h78=>?_
   ·refine RN.go 3 [] λ _=>RN.em (M.get 1=0) 47 (λ h79=>?_) λ h79=>?_
    ·refine RN.goP 16 [.nw] [I64 ((playerAt S (M.get 2))+4)] λ _=>RN.ct [] [0] (span_any l1 A1 c1 T1 (playerAt S (M.get 2)) 4 _ hs1 hz1 (by omega) (by omega) (by omega)) ?_
     rintro _ ⟨la80,Aa81,ca82,Ta83⟩ ⟨rfl,hsa84,hza85,e86⟩
     dsimp only at hsa84 hza85 e86
     have hnla80:la80.length=l1.length+4:=by rw [e86,List.length_append,rg_len]
     refine RN.go 2 [] λ _=>?_
     refine mt76 (la80,Aa81,ca82,Ta83) [0] [0,1] ?_
     try dsimp only
     refine ⟨hsa84,hza85,?_⟩
     unfold headL
     rw [if_pos (c:=_ /\ (_ \/ _)) (by omega)]
     rw [e86,el1]
    ·refine RN.go 4 [] λ _=>RN.em (M.get 1=1) 51 (λ h87=>?_) λ h87=>?_
     ·refine RN.goP 12 [.nw] [I64 ((playerAt S (M.get 2))+4)] λ _=>RN.ct [] [0] (span_any l1 A1 c1 T1 (playerAt S (M.get 2)) 4 _ hs1 hz1 (by omega) (by omega) (by omega)) ?_
      rintro _ ⟨la88,Aa89,ca90,Ta91⟩ ⟨rfl,hsa92,hza93,e94⟩
      dsimp only at hsa92 hza93 e94
      have hnla88:la88.length=l1.length+4:=by rw [e94,List.length_append,rg_len]
      refine RN.go 2 [] λ _=>?_
      refine mt76 (la88,Aa89,ca90,Ta91) [0] [0,1] ?_
      try dsimp only
      refine ⟨hsa92,hza93,?_⟩
      unfold headL
      rw [if_pos (c:=_ /\ (_ \/ _)) (by omega)]
      rw [e94,el1]
     ·refine RN.go 6 [] λ _=>RN.em (M.get 1=3) 55 (λ h95=>?_) λ h95=>?_
      ·refine RN.goP 6 [.nw] [I64 ((playerAt S (M.get 2))+4)] λ _=>RN.ct [] [0] (span_any l1 A1 c1 T1 (playerAt S (M.get 2)) 4 _ hs1 hz1 (by omega) (by omega) (by omega)) ?_
       rintro _ ⟨la96,Aa97,ca98,Ta99⟩ ⟨rfl,hsa100,hza101,e102⟩
       dsimp only at hsa100 hza101 e102
       have hnla96:la96.length=l1.length+4:=by rw [e102,List.length_append,rg_len]
       refine RN.go 2 [] λ _=>?_
       refine mt76 (la96,Aa97,ca98,Ta99) [0] [0,1] ?_
       try dsimp only
       refine ⟨hsa100,hza101,?_⟩
       unfold headL
       rw [if_pos (c:=_ /\ (_ \/ _)) (by omega)]
       rw [e102,el1]
      ·refine RN.go 2 [] λ _=>?_
       refine mt76 (l1,A1,c1,T1) [0] [0,1] ?_
       try dsimp only
       refine ⟨hs1,hz1,?_⟩
       unfold headL
       rw [if_neg (c:=_ /\ (_ \/ _)) (by omega)]
       rw [el1,List.append_nil]
   ·refine RN.go 15 [] λ _=>?_
    refine mt76 (l1,A1,c1,T1) [0] [0,1] ?_
    try dsimp only
    refine ⟨hs1,hz1,?_⟩
    unfold headL
    rw [if_neg (c:=_ /\ (_ \/ _)) (by omega)]
    rw [el1,List.append_nil]
  ·rintro ⟨l2,A2,c2,T2⟩ ⟨hs2,hz2,el2⟩
   have hlen2:l2.length <= 50:=by rw [el2];exact headL_len S M
   refine RN.go 2 [] λ _=>RN.cut (σ:=List Int × Option Addr × Nat × HL) (λ ⟨b2,B2,d2,U2⟩=>⟨[(3,vP (n1+0) 0),(5,vI (M.get 1)),(7,vI (M.get 3)),(8,.slice A2 l2.length c2),(9,.slice B2 b2.length d2)],[((n1+0),.lit (Setup.l S) 31 (0,0))],[T2,U2],SlIs intE 3 b2 B2 d2 U2 /\ zeroOff B2 /\ b2=b1++(if 3 <= M.get 1 /\ M.get 1 <= 7 then [M.get 2] else []),0⟩) ?_ ?_
   ·intro mt103
    refine RN.go 5 [] λ _=>RN.em (M.get 1 >= 3) 63 (λ h104=>?_) λ h104=>?_
    ·refine RN.go 5 [] λ _=>RN.em (M.get 1 <= 7) 66 (λ h105=>?_) λ h105=>?_
     ·refine RN.go 5 [] λ n106=>RN.app intEOk b1 [M.get 2] 1 0 rfl hsb1 (by show b1.length+1 <= 100000000;omega) ?_
      rintro A107 c108 T109 ⟨hs110,hz111⟩
      refine RN.sv 70 (congrArg (λ v_=>(.slice A107 v_ c108:Value)) (show b1.length+[M.get 2].length=(b1++[M.get 2]).length from by rw [List.length_append]))<|RN.go 2 [] λ _=>?_
      refine mt103 ((b1++[M.get 2]),A107,c108,T109) [1] [1,0] ?_
      try dsimp only
      refine ⟨hs110,(hz111 hzb1),?_⟩
      rw [if_pos (by omega)]
     ·refine RN.go 2 [] λ _=>?_
      refine mt103 (b1,B1,d1,U1) [0] [0,1] ?_
      try dsimp only
      refine ⟨hsb1,hzb1,?_⟩
      rw [if_neg (by omega),List.append_nil]
    ·refine RN.go 7 [] λ _=>?_
     refine mt103 (b1,B1,d1,U1) [0] [0,1] ?_
     try dsimp only
     refine ⟨hsb1,hzb1,?_⟩
     rw [if_neg (by omega),List.append_nil]
   ·rintro ⟨b2,B2,d2,U2⟩ ⟨hsb2,hzb2,eb2⟩
    have hlb2:b2.length <= 3:=by rw [eb2,List.length_append];split <;> simp <;> omega
    refine RN.go 2 [] λ _=>RN.cut (σ:=List Int × Option Addr × Nat × HL) (λ ⟨b3,B3,d3,U3⟩=>⟨[(3,vP (n1+0) 0),(8,.slice A2 l2.length c2),(9,.slice B3 b3.length d3)],[((n1+0),.lit (Setup.l S) 31 (0,0))],[T2,U3],SlIs intE 3 b3 B3 d3 U3 /\ zeroOff B3 /\ b3=b2++(if M.get 1=4 \/ M.get 1=5 then [M.get 3] else []),0⟩) ?_ ?_
    ·intro mt112
     refine RN.go 5 [] λ _=>RN.em (M.get 1=4) 73 (λ h113=>?_) λ h113=>?_
     ·refine RN.go 10 [] λ n114=>RN.app intEOk b2 [M.get 3] 1 0 rfl hsb2 (by show b2.length+1 <= 100000000;omega) ?_
      rintro A115 c116 T117 ⟨hs118,hz119⟩
      refine RN.sv 80 (congrArg (λ v_=>(.slice A115 v_ c116:Value)) (show b2.length+[M.get 3].length=(b2++[M.get 3]).length from by rw [List.length_append]))<|RN.go 2 [] λ _=>?_
      refine mt112 ((b2++[M.get 3]),A115,c116,T117) [1] [1,0] ?_
      try dsimp only
      refine ⟨hs118,(hz119 hzb2),?_⟩
      rw [if_pos (by omega)]
     ·refine RN.go 5 [] λ _=>RN.em (M.get 1=5) 76 (λ h120=>?_) λ h120=>?_
      ·refine RN.go 5 [] λ n121=>RN.app intEOk b2 [M.get 3] 1 0 rfl hsb2 (by show b2.length+1 <= 100000000;omega) ?_
       rintro A122 c123 T124 ⟨hs125,hz126⟩
       refine RN.sv 80 (congrArg (λ v_=>(.slice A122 v_ c123:Value)) (show b2.length+[M.get 3].length=(b2++[M.get 3]).length from by rw [List.length_append]))<|RN.go 2 [] λ _=>?_
       refine mt112 ((b2++[M.get 3]),A122,c123,T124) [1] [1,0] ?_
       try dsimp only
       refine ⟨hs125,(hz126 hzb2),?_⟩
       rw [if_pos (by omega)]
      ·refine RN.go 2 [] λ _=>?_
       refine mt112 (b2,B2,d2,U2) [0] [0,1] ?_
       try dsimp only
       refine ⟨hsb2,hzb2,?_⟩
       rw [if_neg (by omega),List.append_nil]
    ·rintro ⟨b3,B3,d3,U3⟩ ⟨hsb3,hzb3,eb3⟩
     have hlb3:b3.length <= 4:=by rw [eb3,List.length_append];split <;> simp <;> omega
     refine RN.go 4 [] λ _=>RN.ct [] [1] (sort_any b3 B3 d3 U3 _ hsb3 hzb3 (by omega)) ?_
     rintro _ T127 ⟨rfl,hs128⟩
     refine RN.go 6 [] λ _=>?_
     have hsl:=srt_len b3
     refine RN.ct [] [0] (lenE hsl (cmp_any (srt b3) B3 d3 T127 _ hs128 hzb3 (by omega))) ?_
     rintro _ T129 ⟨rfl,hs130⟩
     have hkl:=Lib.compact_length_le (srt b3)
     generalize hK:Lib.compact (srt b3)=K at *
     refine RN.go 5 [] λ _=>?_
     have hK4:K.length <= 4:=by omega
     have eK:K=Lib.compact (srt (bodsL M)):=by rw [<- hK,eb3,eb2,eb1];rfl
     refine RN.loop (σ:=Nat × List Int × Option Addr × Nat × HL) (λ ⟨r,l4,A4,c4,T4⟩=>⟨[(3,vP (n1+0) 0),(8,.slice A4 l4.length c4),(84,.slice B3 K.length d3),(85,vI (K.length:Int)),(86,vI (r:Int))],[((n1+0),.lit (Setup.l S) 31 (0,0))],[T4,T129],r <= K.length /\ SlIs intE 3 l4 A4 c4 T4 /\ zeroOff A4 /\ l4=headL S M++(K.take r).flatMap (bcT S),K.length - r⟩) (0,l2,A2,c2,T2) [0] [1,0] (⟨Nat.zero_le _,hs2,hz2,by rw [el2];simp⟩) ?_
     rintro ⟨r,l4,A4,c4,T4⟩ ⟨hr_,hs4,hz4,el4⟩ mt132
     have hlen4:l4.length <= 50+8 * r:=by have h1:=headL_len S M;have h2:=tk_len S K r;rw [el4,List.length_append];omega
     refine RN.go 6 [] λ _=>RN.em ((r:Int) < (K.length:Int)) 87 (λ h133=>?_) λ h133=>?_
     ·refine RN.go 7 [] λ _=>?_
      obtain ⟨kb,rest,rfl,rfl,hkc⟩:=hs130.openL hzb3 (by decide) (by omega)
      rw [List.length_append] at hkc
      refine RN.ot 1 (x:=(kb,.rows 1 d3 (rowE intE (K++rest)) 3 (0,0)))<|RN.goP 9 ([.ix r,.row 0 r 0]++ow 1 16) [(0+r * 1)=r * 1+0 /\ r < d3,(r:Int)=((r:Nat):Int) /\ r < K.length] λ _=>RN.cp (lbody_any S ((K++rest).getD r 0) _ hSN) ?_
      have hb134:=bodyAt_bd hSN ((K++rest).getD r 0)
      refine RN.go 9 [] λ _=>RN.em (bodyAt S ((K++rest).getD r 0) >= 0) 94 (λ h135=>?_) λ h135=>?_
      ·refine RN.goP 6 [.nw] [I64 ((bodyAt S ((K++rest).getD r 0))+8)] λ _=>RN.ct [] [0] (span_any l4 A4 c4 T4 (bodyAt S ((K++rest).getD r 0)) 8 _ hs4 hz4 (by omega) (by omega) (by omega)) ?_
       rintro _ ⟨la136,Aa137,ca138,Ta139⟩ ⟨rfl,hsa140,hza141,e142⟩
       dsimp only at hsa140 hza141 e142
       have hnla136:la136.length=l4.length+8:=by rw [e142,List.length_append,rg_len]
       refine RN.goP 8 [.nw] [I64 ((r:Int)+1)] λ _=>RN.ctl 0 ?_
       refine mt132 (r+1,la136,Aa137,ca138,Ta139) [0] [1,0] ?_
       try dsimp only
       refine ⟨⟨by omega,hsa140,hza141,?_⟩,by omega⟩
       rw [tk_succ S (rest:=rest) (by omega),<- List.append_assoc,<- el4]
       unfold bcT
       rw [if_pos (by omega)]
       exact e142
      ·refine RN.goP 8 [.nw] [I64 ((r:Int)+1)] λ _=>RN.ctl 0 ?_
       refine mt132 (r+1,l4,A4,c4,T4) [0] [1,0] ?_
       try dsimp only
       refine ⟨⟨by omega,hs4,hz4,?_⟩,by omega⟩
       rw [tk_succ S (rest:=rest) (by omega),<- List.append_assoc,<- el4]
       unfold bcT
       rw [if_neg (by omega)]
       rw [List.append_nil]
     ·refine RN.go 12 [] λ _=>RN.ret [] [] [0] (v:=.slice A4 l4.length c4) (H':=(ap [] [T4])) ?_
      obtain rfl:r=K.length:=by omega
      exact ⟨(l4,A4,c4,T4),rfl,rfl,hs4,hz4,by rw [el4,List.take_length,eK];rfl⟩
theorem kid_node (tb m:Nat) (e0 e1 e2:Int) (kv:List (ByteArray × Value)) (l:List Ins) (A:Option Addr) (c:Nat) (T F:HL) (hs:SlIs insE 136 l A c T) (hz:zeroOff A) (ok:OKc l) (hkv:AllInt kv) (h i:Nat) (iz:Int) (hi:iz=(i:Int)) (k n:Int) (s:ByteArray) (q N cq:Nat) (kl rest:List Nd) (hq:(q,.rows 4 N (nrow (kl++rest)) 70 (0,0)) ∈ F) (hN:kl.length <= N) (hx:∀ y ∈ kl,Ht h y) (hk:∀ y ∈ kl,NdIn F y) (hl3:kl.length <= 3) (ih:TrC h) (hb:l.length+(gr h) <= 100000000):Sp Tryz.prog 60 #[vP tb 0,.agg #[vI k,vI n,.string s,vS q 0 kl.length cq],vI (i:Int)] (ap [(tb,.lit [.slice A l.length c,.map (some m),vI e0,vI e1,vI e2] 103 (0,0)),(m,.obj (smap kv))] [T]) F (TrR tb m e0 e1 e2 kv l (gr h)):=by
 refine Sp.run Tryz.func60 rfl (mc hq mn) (A:=[(tb,.lit [.slice A l.length c,.map (some m),vI e0,vI e1,vI e2] 103 (0,0)),(m,.obj (smap kv))]) (Ts:=[T]) rfl λ w0=>?_
 refine RN.go 14 [.own 0] λ n1=>RN.em ((i:Int) < (kl.length:Int)) 10 (λ h2=>?_) λ h2=>?_
 ·have hy:((kl++rest).getD i dN) ∈ kl:=by rw [List.getD_eq_getElem?_getD,List.getElem?_append_left (by omega),<- List.getD_eq_getElem?_getD];exact getD_mem' (by omega)
  refine RN.goP 8 [.own 0,.ix i,.rorow 0 i 0,.rorow 0 i 1,.rorow 0 i 2,.rorow 0 i 3] [((0+i * 4)+3)=i * 4+3 /\ i < N,((0+i * 4)+2)=i * 4+2 /\ i < N,((0+i * 4)+1)=i * 4+1 /\ i < N,(0+i * 4)=i * 4+0 /\ i < N,(i:Int)=((i:Nat):Int) /\ i < kl.length] λ _=>RN.ct [1,2] [0] (ih ((kl++rest).getD i dN) tb m e0 e1 e2 kv l A c T _ (hx _ hy) (hk _ hy).up hs hz ok hkv (by omega)) ?_
  rintro _ ⟨l3,A4,c5,T6⟩ ⟨hs7,hz8,hg9,hl10,ok11⟩
  dsimp only at hs7 hz8 hg9 hl10 ok11
  refine RN.go 1 [] λ _=>RN.ret [] [0,1] [0] (v:=.tuple #[]) (H':=(ap [(tb,.lit [.slice A4 l3.length c5,.map (some m),vI e0,vI e1,vI e2] 103 (0,0)),(m,.obj (smap kv))] [T6])) ?_
  exact ⟨(l3,A4,c5,T6),rfl,hs7,hz8,(by dsimp only;omega),(by dsimp only;omega),ok11⟩
 ·refine RN.go 2 [] λ _=>RN.ret [] [1,2] [0] (v:=.tuple #[]) (H':=(ap [(tb,.lit [.slice A l.length c,.map (some m),vI e0,vI e1,vI e2] 103 (0,0)),(m,.obj (smap kv))] [T])) ?_
  exact ⟨(l,A,c,T),rfl,hs,hz,(by dsimp only;omega),(by dsimp only;omega),ok⟩
theorem kid_leaf (tb m:Nat) (e0 e1 e2:Int) (kv:List (ByteArray × Value)) (l:List Ins) (A:Option Addr) (c:Nat) (T F:HL) (hs:SlIs insE 136 l A c T) (hz:zeroOff A) (ok:OKc l) (hkv:AllInt kv) (h i:Nat) (k n:Int) (s:ByteArray) (Aq:Option Addr) (cq:Nat) (hb:l.length+(gr h) <= 100000000):Sp Tryz.prog 60 #[vP tb 0,.agg #[vI k,vI n,.string s,.slice Aq 0 cq],vI (i:Int)] (ap [(tb,.lit [.slice A l.length c,.map (some m),vI e0,vI e1,vI e2] 103 (0,0)),(m,.obj (smap kv))] [T]) F (TrR tb m e0 e1 e2 kv l (gr h)):=by
 refine Sp.run Tryz.func60 rfl mn (A:=[(tb,.lit [.slice A l.length c,.map (some m),vI e0,vI e1,vI e2] 103 (0,0)),(m,.obj (smap kv))]) (Ts:=[T]) rfl λ w0=>?_
 refine RN.go 14 [.own 0] λ n1=>RN.em ((i:Int) < 0) 10 (λ h2=>?_) λ h2=>?_
 ·(exfalso;omega)
 ·refine RN.go 2 [] λ _=>RN.ret [] [1,2] [0] (v:=.tuple #[]) (H':=(ap [(tb,.lit [.slice A l.length c,.map (some m),vI e0,vI e1,vI e2] 103 (0,0)),(m,.obj (smap kv))] [T])) ?_
  exact ⟨(l,A,c,T),rfl,hs,hz,(by dsimp only;omega),(by dsimp only;omega),ok⟩
theorem kid_any (tb m:Nat) (e0 e1 e2:Int) (kv:List (ByteArray × Value)) (l:List Ins) (A:Option Addr) (c:Nat) (T F:HL) (hs:SlIs insE 136 l A c T) (hz:zeroOff A) (ok:OKc l) (hkv:AllInt kv) (h:Nat) (x:Nd) (hx:Ht (h+1) x) (hN:NdIn F x) (ih:TrC h) (i:Nat) (iz:Int) (hi:iz=(i:Int)) (hb:l.length+gr h <= 100000000):Sp Tryz.prog 60 #[vP tb 0,ndV x,vI iz] (ap (trH tb m e0 e1 e2 kv l.length A c) [T]) F (TrR tb m e0 e1 e2 kv l (gr h)):=by
 subst hi
 cases hN with
 | leaf k n s Aq cq=>exact kid_leaf tb m e0 e1 e2 kv l A c T F hs hz ok hkv h i k n s Aq cq hb
 | node k n s q N cq kl rest hq hN hk=>exact kid_node tb m e0 e1 e2 kv l A c T F hs hz ok hkv h i i rfl k n s q N cq kl rest hq hN (λ y hy=>hx.kid hy) hk hx.kids3 ih hb
theorem name_any (tb m:Nat) (e0 e1 e2:Int) (kv:List (ByteArray × Value)) (l:List Ins) (A:Option Addr) (c:Nat) (T F:HL) (hs:SlIs insE 136 l A c T) (hz:zeroOff A) (ok:OKc l) (hkv:AllInt kv) (h:Nat) (x:Nd) (hx:Ht (h+1) x) (hN:NdIn F x) (ih:TrC h) (hb:l.length+(gr (h+1)) <= 100000000):Sp Tryz.prog 62 #[vP tb 0,.agg #[vI x.k,vI x.n,.string x.s,.slice x.A x.kids.length x.c]] (ap [(tb,.lit [.slice A l.length c,.map (some m),vI e0,vI e1,vI e2] 103 (0,0)),(m,.obj (smap kv))] [T]) F (TrR tb m e0 e1 e2 kv l (gr (h+1))):=by
 have hgr:gr (h+1)=3 * gr h+5:=rfl
 refine Sp.run Tryz.func62 rfl mn (A:=[(tb,.lit [.slice A l.length c,.map (some m),vI e0,vI e1,vI e2] 103 (0,0)),(m,.obj (smap kv))]) (Ts:=[T]) rfl λ w0=>?_
 refine RN.go 18 [.own 0,.sq] λ n1=>RN.em (x.s=⟨#[115,101,108,102]⟩) 8 (λ h2=>?_) λ h2=>?_
 ·refine RN.go 3 [] λ _=>RN.ct [1,2] [0] (emit_any tb m e0 e1 e2 kv l A c T _ hs hz ok hkv 6 0 (by omega) (by intro h;omega) (by omega)) ?_
  rintro _ ⟨l3,A4,c5,T6⟩ ⟨rfl,hs7,hz8,hl9,ok10⟩
  dsimp only at hs7 hz8 hl9 ok10
  refine RN.go 2 [] λ _=>RN.ret [] [0,1] [0] (v:=.tuple #[]) (H':=(ap [(tb,.lit [.slice A4 l3.length c5,.map (some m),vI e0,vI e1,vI e2] 103 (0,0)),(m,.obj (smap kv))] [T6])) ?_
  exact ⟨(l3,A4,c5,T6),rfl,hs7,hz8,(by dsimp only;omega),(by dsimp only;omega),ok10⟩
 ·refine RN.go 7 [.sq] λ _=>RN.em (x.s=⟨#[111,116,104,101,114]⟩) 12 (λ h11=>?_) λ h11=>?_
  ·refine RN.go 3 [] λ _=>RN.ct [1,2] [0] (emit_any tb m e0 e1 e2 kv l A c T _ hs hz ok hkv 7 0 (by omega) (by intro h;omega) (by omega)) ?_
   rintro _ ⟨l12,A13,c14,T15⟩ ⟨rfl,hs16,hz17,hl18,ok19⟩
   dsimp only at hs16 hz17 hl18 ok19
   refine RN.go 2 [] λ _=>RN.ret [] [0,1] [0] (v:=.tuple #[]) (H':=(ap [(tb,.lit [.slice A13 l12.length c14,.map (some m),vI e0,vI e1,vI e2] 103 (0,0)),(m,.obj (smap kv))] [T15])) ?_
   exact ⟨(l12,A13,c14,T15),rfl,hs16,hz17,(by dsimp only;omega),(by dsimp only;omega),ok19⟩
  ·refine RN.go 3 [] λ _=>RN.ct [1,2] [0] (emit_any tb m e0 e1 e2 kv l A c T _ hs hz ok hkv 8 0 (by omega) (by intro h;omega) (by omega)) ?_
   rintro _ ⟨l20,A21,c22,T23⟩ ⟨rfl,hs24,hz25,hl26,ok27⟩
   dsimp only at hs24 hz25 hl26 ok27
   refine RN.go 2 [] λ _=>RN.ret [] [0,1] [0] (v:=.tuple #[]) (H':=(ap [(tb,.lit [.slice A21 l20.length c22,.map (some m),vI e0,vI e1,vI e2] 103 (0,0)),(m,.obj (smap kv))] [T23])) ?_
   exact ⟨(l20,A21,c22,T23),rfl,hs24,hz25,(by dsimp only;omega),(by dsimp only;omega),ok27⟩
theorem unary_any (tb m:Nat) (e0 e1 e2:Int) (kv:List (ByteArray × Value)) (l:List Ins) (A:Option Addr) (c:Nat) (T F:HL) (hs:SlIs insE 136 l A c T) (hz:zeroOff A) (ok:OKc l) (hkv:AllInt kv) (h:Nat) (x:Nd) (hx:Ht (h+1) x) (hN:NdIn F x) (ih:TrC h) (hb:l.length+(gr (h+1)) <= 100000000):Sp Tryz.prog 63 #[vP tb 0,.agg #[vI x.k,vI x.n,.string x.s,.slice x.A x.kids.length x.c]] (ap [(tb,.lit [.slice A l.length c,.map (some m),vI e0,vI e1,vI e2] 103 (0,0)),(m,.obj (smap kv))] [T]) F (TrR tb m e0 e1 e2 kv l (gr (h+1))):=by
 have hgr:gr (h+1)=3 * gr h+5:=rfl
 refine Sp.run Tryz.func63 rfl mn (A:=[(tb,.lit [.slice A l.length c,.map (some m),vI e0,vI e1,vI e2] 103 (0,0)),(m,.obj (smap kv))]) (Ts:=[T]) rfl λ w0=>?_
 refine RN.go 9 [.own 0,.own 0,.own 0,.own 0] λ n1=>RN.ct [1,2] [0] (kid_any tb m e0 e1 e2 kv l A c T _ hs hz ok hkv h x hx hN.up ih 0 0 rfl (by omega)) ?_
 rintro _ ⟨l2,A3,c4,T5⟩ ⟨hs6,hz7,hg8,hl9,ok10⟩
 dsimp only at hs6 hz7 hg8 hl9 ok10
 refine RN.go 9 [.own 2,.sq] λ _=>RN.em (x.s=⟨#[45]⟩) 9 (λ h11=>?_) λ h11=>?_
 ·refine RN.go 3 [] λ _=>RN.ct [0,1] [0] (emit_any tb m e0 e1 e2 kv l2 A3 c4 T5 _ hs6 hz7 ok10 hkv 13 0 (by omega) (by intro h;omega) (by omega)) ?_
  rintro _ ⟨l12,A13,c14,T15⟩ ⟨rfl,hs16,hz17,hl18,ok19⟩
  dsimp only at hs16 hz17 hl18 ok19
  refine RN.go 1 [] λ _=>RN.ret [] [0,1] [0] (v:=.tuple #[]) (H':=(ap [(tb,.lit [.slice A13 l12.length c14,.map (some m),vI e0,vI e1,vI e2] 103 (0,0)),(m,.obj (smap kv))] [T15])) ?_
  exact ⟨(l12,A13,c14,T15),rfl,hs16,hz17,(by dsimp only;omega),(by dsimp only;omega),ok19⟩
 ·refine RN.go 3 [] λ _=>RN.ct [0,1] [0] (emit_any tb m e0 e1 e2 kv l2 A3 c4 T5 _ hs6 hz7 ok10 hkv 17 0 (by omega) (by intro h;omega) (by omega)) ?_
  rintro _ ⟨l20,A21,c22,T23⟩ ⟨rfl,hs24,hz25,hl26,ok27⟩
  dsimp only at hs24 hz25 hl26 ok27
  refine RN.go 1 [] λ _=>RN.ret [] [0,1] [0] (v:=.tuple #[]) (H':=(ap [(tb,.lit [.slice A21 l20.length c22,.map (some m),vI e0,vI e1,vI e2] 103 (0,0)),(m,.obj (smap kv))] [T23])) ?_
  exact ⟨(l20,A21,c22,T23),rfl,hs24,hz25,(by dsimp only;omega),(by dsimp only;omega),ok27⟩
end Go.Proofs.YtkhifpbokgabbaaGreatDoor
