import Derived.Test.YtghjbimijeinfaaGreatDoorV30
set_option maxHeartbeats 4000000
set_option maxRecDepth 100000
set_option linter.all false
namespace Go.Proofs.YtghjbimijeinfaaGreatDoor
open IntKind
open Go.RowKit
def lH(M:MemS):List Int:=((if M.get 1=1 \/ M.get 1=2 \/ M.get 1=6 then jn M else [])++(if 3 <= M.get 1 /\ M.get 1 <= 7 then [M.get 2] else []))++(if M.get 1=4 \/ M.get 1=5 then [M.get 3] else [])
def headL(S:Setup)(M:MemS):List Int:=(rg 0 14++(if M.get 1=1 \/ M.get 1=2 \/ M.get 1=6 then rg 16 16++rg 32 16 else []))++(if 0 <= ah S (M.get 2) /\ (M.get 1=0 \/ M.get 1=1 \/ M.get 1=3) then rg (ah S (M.get 2)) 4 else [])
def Gt(S:Setup)(b:Int):List Int:=if 0 <= af S b then rg (af S b) 8 else []
def cW(S:Setup)(M:MemS):List Int:=headL S M++(Lib.compact (DT (lH M))).flatMap (Gt S)
theorem qC(S:Setup)(M:MemS):(headL S M).length <= 50:=by
 unfold headL;rw[aaV,aaV,fi];split <;> split <;> simp[fi]
theorem MI(S:Setup)(b:Int):(Gt S b).length <= 8:=by unfold Gt;split <;> simp[fi]
theorem Cj(S:Setup):∀ (K:List Int) (r:Nat),((K.take r).flatMap (Gt S)).length <= 8*r
 | [],r=>by simp
 | x::K,0=>by simp
 | x::K,r+1=>by
  have:=Cj S K r;have:=MI S x;simp only[List.take_succ_cons,List.flatMap_cons,aaV];omega
theorem DW(S:Setup){K rest:List Int}{r:Nat}(h:r<K.length):(K.take (r+1)).flatMap (Gt S)=(K.take r).flatMap (Gt S)++Gt S ((K++rest).getD r 0):=by
 rw[List.take_succ_eq_append_getElem h,List.flatMap_append,aaK,aa4 h,aa3 h];simp
theorem F9(M:MemS):(lH M).length <= 4:=by
 have:=wb M;unfold lH;rw[aaV,aaV];split <;> split <;> split <;> simp <;> omega
theorem SP{P:Program}{f:FuncId}{A:Option Addr}{c n m:Nat}{H F:HL}{R:Value -> HL -> Prop}(e:m=n)(h:Sp P f #[.slice A m c] H F R):Sp P f #[.slice A n c] H F R:=e ▸ h
theorem Ak(mb k:Nat)(M:MemS)(S:Setup)(T F:HL)(hSN:SetN S)(h:MemH mb M k T)(hT:∀x∈T,x∈F):Sp Tryz.prog 17 #[.iface 40 (vP mb 0),(Setup.v S)] [] F (λ u H'=>∃x:List Int × Option Addr × Nat × HL,H'=ap [] [x.2.2.2] /\ (u=.slice x.2.1 x.1.length x.2.2.1 /\ SlIs dE 3 x.1 x.2.1 x.2.2.1 x.2.2.2 /\ bx x.2.1 /\ x.1=cW S M)):=by
 refine aas Tryz.func17 rfl mn (A:=[]) (Ts:=[]) rfl λ w0=>?_;refine ae 19 [] λ n1=>aah (ar 1 h (λ x hx=>aq (hT x hx)))<|ae 1 [] λ _=>aah (ar 2 h (λ x hx=>aq (hT x hx)))<|ae 1 [] λ _=>aah (ar 3 h (λ x hx=>aq (hT x hx)))<|ae 7 [] λ _=>aao<|aai [] [0] (fF [] none 0 ([]:HL) 0 14 _ (aar _ _) trivial (aaU _) (by omega) (by omega)) ?_;rintro _ ⟨YW,Aa3,ca4,Ta5⟩ ⟨rfl,W0,WR,e8⟩;dsimp only at W0 WR e8;have akh:YW.length=0+14:=by rw[e8,aaV,fi];rfl
 refine ae 9 [] λ _=>RN.cut (σ:=List Int × Option Addr × Nat × HL × List Int × Option Addr × Nat × HL) (λ ⟨l1,A1,c1,T1,b1,B1,d1,U1⟩=>⟨[(3,vP (n1+0) 0),(5,vI (M.get 1)),(6,vI (M.get 2)),(7,vI (M.get 3)),(8,.slice A1 l1.length c1),(9,.slice B1 b1.length d1)],[((n1+0),.lit (Setup.l S) 31 (0,0))],[T1,U1],SlIs dE 3 l1 A1 c1 T1 /\ bx A1 /\ SlIs dE 3 b1 B1 d1 U1 /\ bx B1 /\ l1=rg 0 14++(if M.get 1=1 \/ M.get 1=2 \/ M.get 1=6 then rg 16 16++rg 32 16 else []) /\ b1=(if M.get 1=1 \/ M.get 1=2 \/ M.get 1=6 then jn M else []),0⟩) ?_ ?_
 ·intro Wt;refine ae 5 [] λ _=>aal (M.get 1=1) 25 (λ Ti=>?_) λ Ti=>?_
  ·refine ae 13 [] λ _=>aai [] [0] (fF YW Aa3 ca4 Ta5 16 16 _ W0 WR (by omega) (by omega) (by omega)) ?_;rintro _ ⟨ZY,ajK,aiX,aje⟩ ⟨rfl,Zx,Zg,e17⟩;dsimp only at Zx Zg e17;have ag6:ZY.length=YW.length+16:=by rw[e17,aaV,fi]
   refine ae 6 [] λ _=>aai [] [0] (fF ZY ajK aiX aje 32 16 _ Zx Zg (by omega) (by omega) (by omega)) ?_;rintro _ ⟨acw,ajJ,aiW,ajd⟩ ⟨rfl,Zw,Zf,e24⟩;dsimp only at Zw Zf e24;have ag5:acw.length=ZY.length+16:=by rw[e24,aaV,fi]
   refine ae 5 [] λ _=>aai (Hp:=[]) (Tp:=[]) [] [] (qA mb k M T _ h (λ x hx=>aq (hT x hx))) ?_;rintro _ ⟨ai3,ajI,aiV,ajc⟩ ⟨rfl,Zv,Ze,e31⟩;dsimp only at Zv Ze e31;refine ae 2 [] λ _=>?_;refine Wt (acw,ajJ,aiW,ajd,ai3,ajI,aiV,ajc) [0] [1,0] ?_
   try dsimp only
   refine⟨Zw,Zf,Zv,Ze,?_,?_⟩
   ·rw[if_pos (by omega)];simp[e8,e17,e24]
   ·rw[if_pos (by omega)];exact e31
  ·refine ae 4 [] λ _=>aal (M.get 1=2) 29 (λ XE=>?_) λ XE=>?_
   ·refine ae 9 [] λ _=>aai [] [0] (fF YW Aa3 ca4 Ta5 16 16 _ W0 WR (by omega) (by omega) (by omega)) ?_;rintro _ ⟨ZX,ajH,aiU,ajb⟩ ⟨rfl,Zu,Zd,e39⟩;dsimp only at Zu Zd e39;have ag4:ZX.length=YW.length+16:=by rw[e39,aaV,fi]
    refine ae 6 [] λ _=>aai [] [0] (fF ZX ajH aiU ajb 32 16 _ Zu Zd (by omega) (by omega) (by omega)) ?_;rintro _ ⟨acv,ajG,aiT,aja⟩ ⟨rfl,Zt,Zc,e46⟩;dsimp only at Zt Zc e46;have ag3:acv.length=ZX.length+16:=by rw[e46,aaV,fi]
    refine ae 5 [] λ _=>aai (Hp:=[]) (Tp:=[]) [] [] (qA mb k M T _ h (λ x hx=>aq (hT x hx))) ?_;rintro _ ⟨ai2,ajF,aiS,ai_⟩ ⟨rfl,Zs,Zb,e53⟩;dsimp only at Zs Zb e53;refine ae 2 [] λ _=>?_;refine Wt (acv,ajG,aiT,aja,ai2,ajF,aiS,ai_) [0] [1,0] ?_
    try dsimp only
    refine⟨Zt,Zc,Zs,Zb,?_,?_⟩
    ·rw[if_pos (by omega)];simp[e8,e39,e46]
    ·rw[if_pos (by omega)];exact e53
   ·refine ae 5 [] λ _=>aal (M.get 1=6) 32 (λ h54=>?_) λ h54=>?_
    ·refine ae 4 [] λ _=>aai [] [0] (fF YW Aa3 ca4 Ta5 16 16 _ W0 WR (by omega) (by omega) (by omega)) ?_;rintro _ ⟨ZW,ajE,aiR,ai9⟩ ⟨rfl,Zr,Za,e61⟩;dsimp only at Zr Za e61;have ag2:ZW.length=YW.length+16:=by rw[e61,aaV,fi]
     refine ae 6 [] λ _=>aai [] [0] (fF ZW ajE aiR ai9 32 16 _ Zr Za (by omega) (by omega) (by omega)) ?_;rintro _ ⟨acu,ajD,aiQ,ai8⟩ ⟨rfl,Zq,Y_,e68⟩;dsimp only at Zq Y_ e68;have ag1:acu.length=ZW.length+16:=by rw[e68,aaV,fi]
     refine ae 5 [] λ _=>aai (Hp:=[]) (Tp:=[]) [] [] (qA mb k M T _ h (λ x hx=>aq (hT x hx))) ?_;rintro _ ⟨ai1,ajC,aiP,ai7⟩ ⟨rfl,Zp,Y8,e75⟩;dsimp only at Zp Y8 e75;refine ae 2 [] λ _=>?_;refine Wt (acu,ajD,aiQ,ai8,ai1,ajC,aiP,ai7) [0] [1,0] ?_
     try dsimp only
     refine⟨Zq,Y_,Zp,Y8,?_,?_⟩
     ·rw[if_pos (by omega)];simp[e8,e61,e68]
     ·rw[if_pos (by omega)];exact e75
    ·refine ae 2 [] λ _=>aao ?_;refine Wt (YW,Aa3,ca4,Ta5,[],none,0,([]:HL)) [0] [1,0] ?_
     try dsimp only
     refine⟨W0,WR,(aar _ _),trivial,?_,?_⟩
     ·rw[if_neg (by omega)];simp[e8]
     ·rw[if_neg (by omega)]
 ·rintro⟨l1,A1,c1,T1,b1,B1,d1,U1⟩ ⟨W6,hz1,aaz,Z3,el1,eb1⟩;have akn:l1.length <= 46:=by rw[el1];split <;> simp[fi]
  have am4:b1.length <= 2:=by have:=wb M;rw[eb1];split <;> simp <;> omega
  refine ae 2 [] λ _=>RN.cut (σ:=List Int × Option Addr × Nat × HL) (λ ⟨l2,A2,c2,T2⟩=>⟨[(3,vP (n1+0) 0),(5,vI (M.get 1)),(6,vI (M.get 2)),(7,vI (M.get 3)),(8,.slice A2 l2.length c2),(9,.slice B1 b1.length d1)],[((n1+0),.lit (Setup.l S) 31 (0,0))],[T2,U1],SlIs dE 3 l2 A2 c2 T2 /\ bx A2 /\ l2=headL S M,0⟩) ?_ ?_
  ·intro WG;refine ae 4 (ow 0 16) λ _=>aah (gh S (M.get 2) _ hSN) ?_;have anF:=ge hSN (M.get 2);refine ae 8 [] λ _=>aal (ah S (M.get 2) >= 0) 44 (λ h78=>?_) λ h78=>?_
   ·refine ae 3 [] λ _=>aal (M.get 1=0) 47 (λ h79=>?_) λ h79=>?_
    ·refine ai 16 [.nw] [bm ((ah S (M.get 2))+4)] λ _=>aai [] [0] (fF l1 A1 c1 T1 (ah S (M.get 2)) 4 _ W6 hz1 (by omega) (by omega) (by omega)) ?_;rintro _ ⟨acs,ajB,aiO,ai6⟩ ⟨rfl,Zo,Y6,e86⟩;dsimp only at Zo Y6 e86;have ag0:acs.length=l1.length+4:=by rw[e86,aaV,fi]
     refine ae 2 [] λ _=>?_;refine WG (acs,ajB,aiO,ai6) [0] [0,1] ?_
     try dsimp only
     refine⟨Zo,Y6,?_⟩;unfold headL;rw[if_pos (c:=_ /\ (_ \/ _)) (by omega)];rw[e86,el1]
    ·refine ae 4 [] λ _=>aal (M.get 1=1) 51 (λ h87=>?_) λ h87=>?_
     ·refine ai 12 [.nw] [bm ((ah S (M.get 2))+4)] λ _=>aai [] [0] (fF l1 A1 c1 T1 (ah S (M.get 2)) 4 _ W6 hz1 (by omega) (by omega) (by omega)) ?_;rintro _ ⟨acr,ajA,aiN,ai5⟩ ⟨rfl,Zn,Y2,e94⟩;dsimp only at Zn Y2 e94;have agZ:acr.length=l1.length+4:=by rw[e94,aaV,fi]
      refine ae 2 [] λ _=>?_;refine WG (acr,ajA,aiN,ai5) [0] [0,1] ?_
      try dsimp only
      refine⟨Zn,Y2,?_⟩;unfold headL;rw[if_pos (c:=_ /\ (_ \/ _)) (by omega)];rw[e94,el1]
     ·refine ae 6 [] λ _=>aal (M.get 1=3) 55 (λ h95=>?_) λ h95=>?_
      ·refine ai 6 [.nw] [bm ((ah S (M.get 2))+4)] λ _=>aai [] [0] (fF l1 A1 c1 T1 (ah S (M.get 2)) 4 _ W6 hz1 (by omega) (by omega) (by omega)) ?_;rintro _ ⟨acq,ajz,aiM,ai4⟩ ⟨rfl,W5,WU,abx⟩;dsimp only at W5 WU abx;have agY:acq.length=l1.length+4:=by rw[abx,aaV,fi]
       refine ae 2 [] λ _=>?_;refine WG (acq,ajz,aiM,ai4) [0] [0,1] ?_
       try dsimp only
       refine⟨W5,WU,?_⟩;unfold headL;rw[if_pos (c:=_ /\ (_ \/ _)) (by omega)];rw[abx,el1]
      ·refine ae 2 [] λ _=>?_;refine WG (l1,A1,c1,T1) [0] [0,1] ?_
       try dsimp only
       refine⟨W6,hz1,?_⟩;unfold headL;rw[if_neg (c:=_ /\ (_ \/ _)) (by omega)];rw[el1,List.append_nil]
   ·refine ae 15 [] λ _=>?_;refine WG (l1,A1,c1,T1) [0] [0,1] ?_
    try dsimp only
    refine⟨W6,hz1,?_⟩;unfold headL;rw[if_neg (c:=_ /\ (_ \/ _)) (by omega)];rw[el1,List.append_nil]
  ·rintro⟨l2,A2,c2,T2⟩ ⟨hs2,Vr,el2⟩;have Uc:l2.length <= 50:=by rw[el2];exact qC S M
   refine ae 2 [] λ _=>RN.cut (σ:=List Int × Option Addr × Nat × HL) (λ ⟨b2,B2,d2,U2⟩=>⟨[(3,vP (n1+0) 0),(5,vI (M.get 1)),(7,vI (M.get 3)),(8,.slice A2 l2.length c2),(9,.slice B2 b2.length d2)],[((n1+0),.lit (Setup.l S) 31 (0,0))],[T2,U2],SlIs dE 3 b2 B2 d2 U2 /\ bx B2 /\ b2=b1++(if 3 <= M.get 1 /\ M.get 1 <= 7 then [M.get 2] else []),0⟩) ?_ ?_
   ·intro WI;refine ae 5 [] λ _=>aal (M.get 1 >= 3) 63 (λ ain=>?_) λ ain=>?_
    ·refine ae 5 [] λ _=>aal (M.get 1 <= 7) 66 (λ aim=>?_) λ aim=>?_
     ·refine ae 5 [] λ n106=>eA jd b1 [M.get 2] 1 0 rfl aaz (by show b1.length+1 <= 100000000;omega) ?_;rintro aeO aeA ajo ⟨ac9,acG⟩;refine aS 70 (congrArg (λ v_=>(.slice aeO v_ aeA:Value)) (show b1.length+[M.get 2].length=(b1++[M.get 2]).length from by rw[aaV]))<|ae 2 [] λ _=>?_;refine WI ((b1++[M.get 2]),aeO,aeA,ajo) [1] [1,0] ?_
      try dsimp only
      refine⟨ac9,(acG Z3),?_⟩;rw[if_pos (by omega)]
     ·refine ae 2 [] λ _=>?_;refine WI (b1,B1,d1,U1) [0] [0,1] ?_
      try dsimp only
      refine⟨aaz,Z3,?_⟩;rw[if_neg (by omega),List.append_nil]
    ·refine ae 7 [] λ _=>?_;refine WI (b1,B1,d1,U1) [0] [0,1] ?_
     try dsimp only
     refine⟨aaz,Z3,?_⟩;rw[if_neg (by omega),List.append_nil]
   ·rintro⟨b2,B2,d2,U2⟩ ⟨aay,Z2,eb2⟩;have am3:b2.length <= 3:=by rw[eb2,aaV];split <;> simp <;> omega
    refine ae 2 [] λ _=>RN.cut (σ:=List Int × Option Addr × Nat × HL) (λ ⟨b3,B3,d3,U3⟩=>⟨[(3,vP (n1+0) 0),(8,.slice A2 l2.length c2),(9,.slice B3 b3.length d3)],[((n1+0),.lit (Setup.l S) 31 (0,0))],[T2,U3],SlIs dE 3 b3 B3 d3 U3 /\ bx B3 /\ b3=b2++(if M.get 1=4 \/ M.get 1=5 then [M.get 3] else []),0⟩) ?_ ?_
    ·intro WH;refine ae 5 [] λ _=>aal (M.get 1=4) 73 (λ ail=>?_) λ ail=>?_
     ·refine ae 10 [] λ n114=>eA jd b2 [M.get 3] 1 0 rfl aay (by show b2.length+1 <= 100000000;omega) ?_;rintro aeN aez ajn ⟨ac8,acF⟩;refine aS 80 (congrArg (λ v_=>(.slice aeN v_ aez:Value)) (show b2.length+[M.get 3].length=(b2++[M.get 3]).length from by rw[aaV]))<|ae 2 [] λ _=>?_;refine WH ((b2++[M.get 3]),aeN,aez,ajn) [1] [1,0] ?_
      try dsimp only
      refine⟨ac8,(acF Z2),?_⟩;rw[if_pos (by omega)]
     ·refine ae 5 [] λ _=>aal (M.get 1=5) 76 (λ aik=>?_) λ aik=>?_
      ·refine ae 5 [] λ n121=>eA jd b2 [M.get 3] 1 0 rfl aay (by show b2.length+1 <= 100000000;omega) ?_;rintro aeL aey ajl ⟨ac7,acE⟩;refine aS 80 (congrArg (λ v_=>(.slice aeL v_ aey:Value)) (show b2.length+[M.get 3].length=(b2++[M.get 3]).length from by rw[aaV]))<|ae 2 [] λ _=>?_;refine WH ((b2++[M.get 3]),aeL,aey,ajl) [1] [1,0] ?_
       try dsimp only
       refine⟨ac7,(acE Z2),?_⟩;rw[if_pos (by omega)]
      ·refine ae 2 [] λ _=>?_;refine WH (b2,B2,d2,U2) [0] [0,1] ?_
       try dsimp only
       refine⟨aay,Z2,?_⟩;rw[if_neg (by omega),List.append_nil]
    ·rintro⟨b3,B3,d3,U3⟩ ⟨agu,Z1,eb3⟩;have am2:b3.length <= 4:=by rw[eb3,aaV];split <;> simp <;> omega
     refine ae 4 [] λ _=>aai [] [1] (J2 b3 B3 d3 U3 _ agu Z1 (by omega)) ?_;rintro _ ajk ⟨rfl,ac6⟩;refine ae 6 [] λ _=>?_;have hsl:=r7 b3;refine aai [] [0] (SP hsl (MH (DT b3) B3 d3 ajk _ ac6 Z1 (by omega))) ?_;rintro _ ajj ⟨rfl,ac5⟩;have hkl:=Lib.compact_length_le (DT b3);generalize hK:Lib.compact (DT b3)=K at *;refine ae 5 [] λ _=>?_;have hK4:K.length <= 4:=by omega
     have eK:K=Lib.compact (DT (lH M)):=by rw[<- hK,eb3,eb2,eb1];rfl
     refine aan (σ:=Nat × List Int × Option Addr × Nat × HL) (λ ⟨r,l4,A4,c4,T4⟩=>⟨[(3,vP (n1+0) 0),(8,.slice A4 l4.length c4),(84,.slice B3 K.length d3),(85,vI (K.length:Int)),(86,vI (r:Int))],[((n1+0),.lit (Setup.l S) 31 (0,0))],[T4,ajj],r <= K.length /\ SlIs dE 3 l4 A4 c4 T4 /\ bx A4 /\ l4=headL S M++(K.take r).flatMap (Gt S),K.length-r⟩) (0,l2,A2,c2,T2) [0] [1,0] (⟨aaU _,hs2,Vr,by rw[el2];simp⟩) ?_;rintro⟨r,l4,A4,c4,T4⟩ ⟨UQ,hs4,hz4,el4⟩ YV;have akm:l4.length <= 50+8*r:=by have h1:=qC S M;have h2:=Cj S K r;rw[el4,aaV];omega
     refine ae 6 [] λ _=>aal ((r:Int)<(K.length:Int)) 87 (λ aij=>?_) λ aij=>?_
     ·refine ae 7 [] λ _=>?_;obtain⟨kb,rest,rfl,rfl,hkc⟩:=ac5.openL Z1 (by decide) (by omega);rw[aaV] at hkc;refine qO 1 (x:=(kb,.rows 1 d3 (bu dE (K++rest)) 3 (0,0)))<|ai 9 ([.ix r,.row 0 r 0]++ow 1 16) [(0+r*1)=r*1+0 /\ r<d3,(r:Int)=((r:Nat):Int) /\ r<K.length] λ _=>aah (cL S ((K++rest).getD r 0) _ hSN) ?_;have akI:=cK hSN ((K++rest).getD r 0);refine ae 9 [] λ _=>aal (af S ((K++rest).getD r 0) >= 0) 94 (λ aii=>?_) λ aii=>?_
      ·refine ai 6 [.nw] [bm ((af S ((K++rest).getD r 0))+8)] λ _=>aai [] [0] (fF l4 A4 c4 T4 (af S ((K++rest).getD r 0)) 8 _ hs4 hz4 (by omega) (by omega) (by omega)) ?_;rintro _ ⟨YX,aeK,aex,aeB⟩ ⟨rfl,W4,WT,abw⟩;dsimp only at W4 WT abw;have aeZ:YX.length=l4.length+8:=by rw[abw,aaV,fi]
       refine ai 8 [.nw] [bm ((r:Int)+1)] λ _=>Ji 0 ?_;refine YV (r+1,YX,aeK,aex,aeB) [0] [1,0] ?_
       try dsimp only
       refine⟨⟨by omega,W4,WT,?_⟩,by omega⟩;rw[DW S (rest:=rest) (by omega),<- aaF,<- el4];unfold Gt;rw[if_pos (by omega)];exact abw
      ·refine ai 8 [.nw] [bm ((r:Int)+1)] λ _=>Ji 0 ?_;refine YV (r+1,l4,A4,c4,T4) [0] [1,0] ?_
       try dsimp only
       refine⟨⟨by omega,hs4,hz4,?_⟩,by omega⟩;rw[DW S (rest:=rest) (by omega),<- aaF,<- el4];unfold Gt;rw[if_neg (by omega)];rw[List.append_nil]
     ·refine ae 12 [] λ _=>aap [] [] [0] (v:=.slice A4 l4.length c4) (H':=(ap [] [T4])) ?_;obtain rfl:r=K.length:=by omega
      exact⟨(l4,A4,c4,T4),rfl,rfl,hs4,hz4,by rw[el4,List.take_length,eK];rfl⟩
structure Loc(D:Int -> Prop)(P:MemS -> MemS -> Prop):Prop where
 get:∀ {M N:MemS} {i:Int},D i -> P M N -> M.get i=N.get i
 set:∀ {M N:MemS} {i:Int} (v:Int),D i -> P M N -> P (M.set i v) (N.set i v)
 low:∀i:Int,0 <= i -> i<14 -> D i
abbrev ub(D:Int -> Prop)(S:Setup)(k:Int):Prop:=0 <= af S k -> ∀c:Int,0 <= c -> c<8 -> D (af S k+c)
abbrev RY(D:Int -> Prop)(S:Setup)(k:Int):Prop:=0 <= ah S k -> ∀c:Int,0 <= c -> c<4 -> D (ah S k+c)
abbrev PG(D:Int -> Prop):Prop:=∀i:Int,16 <= i -> i<48 -> D i
section
variable {D:Int -> Prop} {P:MemS -> MemS -> Prop} {M N:MemS}
theorem dj{c:Prop}[Decidable c]{A B A' B':MemS}(h1:c -> P A A')(h2:¬ c -> P B B'):P (if c then A else B) (if c then A' else B'):=by
 split
 ·exact h1 (by assumption)
 ·exact h2 (by assumption)
theorem Loc.s0(h:Loc D P)(i v:Int)(hi:0 <= i /\ i<14)(hp:P M N):P (M.set i v) (N.set i v):=h.set v (h.low i hi.1 hi.2) hp
theorem Loc.g0(h:Loc D P)(i:Int)(hi:0 <= i /\ i<14)(hp:P M N):M.get i=N.get i:=h.get (h.low i hi.1 hi.2) hp
theorem jo(h:Loc D P)(t:Stp)(ph j:Int)(hp:P M N):P (aO t ph j M) (aO t ph j N):=h.s0 3 _ (by decide) (h.s0 2 _ (by decide) (h.s0 1 _ (by decide) hp))
theorem J3(h:Loc D P)(t:Stp)(iS:RY D t.S t.i)(hp:P M N):P (aP t M) (aP t N):=by
 unfold aP;have h1:P (aW t M) (aW t N):=by
  unfold aW;exact dj (λ _=>h.s0 11 _ (by decide) (h.s0 13 _ (by decide) hp)) λ _=>hp
 generalize aW t M=A at h1;generalize aW t N=B at h1;have h2:P (br t A) (br t B):=by
  unfold br;refine dj (λ e=>dj (λ _=>?_) λ _=>h1) λ _=>h1;exact h.set _ (iS e 2 (by decide) (by decide)) (h.set _ (iS e 1 (by decide) (by decide)) (h.set _ (iS e 0 (by decide) (by decide)) h1))
 unfold b6;exact dj (λ _=>h.s0 2 _ (by decide) h2) λ _=>jo h t 1 0 h2
theorem we{S:Setup}{k:Int}(hp:0 <= S.players)(h:0 <= k /\ k<S.nb):0 <= af S k:=by
 unfold af;rw[if_neg (by omega),if_neg (by omega)];omega
theorem mm(h:Loc D P){S:Setup}{k:Int}(hb:∀c:Int,0 <= c -> c<8 -> D (af S k+c))(hp:P M N):al S M k=al S N k:=by
 unfold al;rw[h.get (hb 0 (by decide) (by decide)) hp,h.get (hb 1 (by decide) (by decide)) hp,h.get (hb 2 (by decide) (by decide)) hp,h.get (hb 3 (by decide) (by decide)) hp]
theorem wg(h:Loc D P){t:Stp}{k:Int}(hb:∀c:Int,0 <= c -> c<8 -> D (af t.S k+c))(m:Mot)(hp:P M N):P (du t k m M) (du t k m N) :=
 h.set _ (hb 3 (by decide) (by decide)) (h.set _ (hb 2 (by decide) (by decide)) (h.set _ (hb 1 (by decide) (by decide)) (h.set _ (hb 0 (by decide) (by decide)) hp)))
theorem Al(h:Loc D P)(t:Stp){c sp:Int}(pos lo hi:Int)(hc:D c)(hs:D sp)(hp:P M N):P (dK t c sp pos lo hi M) (dK t c sp pos lo hi N):=by
 have h1:=h.set (aG pos lo hi) hc hp;unfold dK;rw[h.get hs h1];exact dj (λ _=>h1) λ _=>h.set _ hs h1
theorem Ga(h:Loc D P)(t:Stp)(hb:∀c:Int,0 <= c -> c<8 -> D (af t.S t.i+c))(hp:P M N):P (bH t M) (bH t N):=by
 have e:eM t M=eM t N:=by
  unfold eM jH;rw[mm h hb hp,h.g0 5 (by decide) hp]
 unfold bH;rw[e];exact Al h t _ _ _ (hb 1 (by decide) (by decide)) (hb 3 (by decide) (by decide)) (Al h t _ _ _ (hb 0 (by decide) (by decide)) (hb 2 (by decide) (by decide)) hp)
theorem J4(h:Loc D P)(t:Stp)(hS:0 <= t.S.players)(hb:ub D t.S t.i)(iS:RY D t.S t.i)(hp:P M N):P (aL t M) (aL t N):=by
 unfold aL;have h1:P (bA t M) (bA t N):=by
  unfold bA;exact dj (λ e=>h.set _ (hb e 6 (by decide) (by decide)) hp) λ _=>hp
 generalize bA t M=A at h1;generalize bA t N=B at h1;have h2:P (bB t A) (bB t B):=by
  unfold bB;refine dj (λ e=>?_) λ _=>h1;have TQ:=hb (we hS e.1);have e2:bF t A=bF t B:=by
   unfold bF;rw[mm h TQ h1];split
   ·next e3=>rw[h.get (iS e3 0 (by decide) (by decide)) h1,h.get (iS e3 1 (by decide) (by decide)) h1]
   ·rfl
  rw[e2];exact h.set _ (TQ 3 (by decide) (by decide)) (h.set _ (TQ 2 (by decide) (by decide)) h1)
 unfold b7;exact dj (λ _=>h.s0 2 _ (by decide) h2) λ _=>h.s0 4 _ (by decide) (jo h t 4 1 h2)
theorem J5(h:Loc D P)(t:Stp)(hS:0 <= t.S.players)(hi:ub D t.S t.i)(hj:ub D t.S t.j)(hp:P M N):P (cT t M) (cT t N):=by
 unfold cT;refine dj (λ e1=>dj (λ e2=>?_) λ _=>hp) λ _=>hp;have Xd:=hi (we hS e1);have Xc:=hj (we hS e2);have c1:mW t M=mW t N:=by unfold mW;rw[mm h Xd hp,mm h Xc hp]
 have c2:pT t M=pT t N:=by unfold pT;rw[mm h Xd hp,mm h Xc hp,c1]
 rw[c1];refine dj (λ _=>?_) λ _=>hp;unfold fS;rw[c2];exact h.set _ (Xc 6 (by decide) (by decide)) (h.set _ (Xd 6 (by decide) (by decide)) (wg h Xc _ (wg h Xd _ hp)))
theorem Ck(h:Loc D P)(t:Stp)(hS:0 <= t.S.players)(hi:ub D t.S t.i)(hj:ub D t.S t.j)(hp:P M N):P (bq t M) (bq t N):=by
 unfold bq;rw[h.g0 4 (by decide) hp];have h5:=h.s0 5 1024 (by decide) (jo h t 5 0 hp);exact dj (λ _=>h5) λ _=>dj (λ _=>h5) λ _=>h.s0 3 _ (by decide) (h.s0 2 _ (by decide) (h.s0 4 _ (by decide) (J5 h t hS hi hj hp)))
theorem MJ(h:Loc D P)(t:Stp)(hS:0 <= t.S.players)(hi:ub D t.S t.i)(hj:ub D t.S t.j)(hjs:0 <= t.j /\ t.j<t.S.nb)(hp:P M N):P (dZ t M) (dZ t N):=by
 unfold dZ;refine dj (λ _=>hp) λ _=>dj (λ e=>?_) λ _=>hp;have c1:nO t M=nO t N:=by unfold nO;rw[mm h (hi (we hS e.1)) hp,mm h (hj (we hS hjs)) hp]
 rw[c1,h.g0 5 (by decide) hp];exact dj (λ _=>h.s0 5 _ (by decide) hp) λ _=>hp
theorem MK(h:Loc D P)(t:Stp)(hS:0 <= t.S.players)(hi:ub D t.S t.i)(hj:ub D t.S t.j)(hp:P M N):P (dg t M) (dg t N):=by
 unfold dg;refine dj (λ e=>h.s0 3 _ (by decide) (MJ h t hS hi hj e hp)) λ _=>?_;have h1:P (if movP t.S t.i then bH t M else M) (if movP t.S t.i then bH t N else N):=dj (λ e=>Ga h t (hi (we hS e.1)) hp) λ _=>hp;unfold fM;exact dj (λ _=>h.s0 5 _ (by decide) (h.s0 3 _ (by decide) (h.s0 2 _ (by decide) h1))) λ _=>h.s0 5 _ (by decide) (jo h t 6 0 h1)
theorem DX(h:Loc D P)(hp:P M N):∀n,n <= 10 -> P (ci M n) (ci N n)
 | 0,_=>hp
 | n+1,hn=>by
  rw[ci,ci];exact h.s0 _ _ (by omega) (DX h hp n (by omega))
theorem ML(h:Loc D P)(t:Stp)(hi:ub D t.S t.i)(hp:P M N):P (dm t M) (dm t N):=by
 unfold dm;have h1:P (fq t M) (fq t N):=by
  unfold fq;refine dj (λ e=>?_) λ _=>hp;have Xd:=hi e;rw[h.get (Xd 2 (by decide) (by decide)) hp,h.get (Xd 3 (by decide) (by decide)) hp,h.get (Xd 7 (by decide) (by decide)) hp];exact h.set _ (Xd 7 (by decide) (by decide)) hp
 generalize fq t M=A at h1;generalize fq t N=B at h1;unfold gP;rw[h.g0 0 (by decide) h1];exact dj (λ _=>h.s0 2 _ (by decide) h1) λ _=>DX h (h.s0 0 _ (by decide) h1) 10 (aaS _)
def RP(P:MemS -> MemS -> Prop)(r s:VR):Prop:=P r.M s.M /\ r.v=s.v /\ r.e=s.e /\ r.em=s.em
theorem RP.ite{c:Prop}[Decidable c]{x y x' y':VR}(h1:c -> RP P x x')(h2:¬ c -> RP P y y'):RP P (if c then x else y) (if c then x' else y'):=by
 split
 ·exact h1 (by assumption)
 ·exact h2 (by assumption)
theorem RP.of{A B:MemS}(hp:P A B){v v':Int}(e:v=v'){f:Eff}{b:Bool}:RP P ⟨A,v,f,b⟩ ⟨B,v',f,b⟩:=⟨hp,e,rfl,rfl⟩
theorem RP.m{r s:VR}(h:RP P r s){v:Int}:RP P ⟨r.M,v,r.e,r.em⟩ ⟨s.M,v,s.e,s.em⟩:=⟨h.1,rfl,h.2.2.1,h.2.2.2⟩
theorem MM(h:Loc D P)(k v:Int)(hp:P M N):RP P (cG k v M) (cG k v N):=by
 unfold cG;rw[h.g0 11 (by decide) hp,h.g0 12 (by decide) hp,h.g0 0 (by decide) hp];exact .ite (λ _=>.of hp rfl) λ _=>⟨h.s0 11 _ (by decide) (h.s0 12 _ (by decide) hp),rfl,rfl,rfl⟩
theorem Rz{S:Setup}(hV:SetV S){k n:Int}(h:0 <= af S k)(hn:0 <= n /\ n<8):aV (af S k+n)=af S k+n:=by
 have hp:=hV.pl;have hb:=hV.nb;rcases lh (S:=S) (by omega) k with e|⟨_,_,e⟩
 ·omega
 ·exact bU (by omega)
theorem MN(h:Loc D P)(hD:PG D){S:Setup}(hV:SetV S){op n:Int}(a b:Int)(hn:eN op=0 \/ (0 <= n /\ n<eN op))(ha:op=4 \/ op=5 -> ub D S a)(hp:P M N):RP P (aD S op n a b M) (aD S op n a b N):=by
 have TX:op=2 \/ op=3 -> 0 <= n /\ n<16:=by
  rintro(rfl|rfl) <;> exact hn.resolve_left (by decide)
 have h8:op=4 \/ op=5 -> 0 <= n /\ n<8:=by
  rintro(rfl|rfl) <;> exact hn.resolve_left (by decide)
 unfold aD;refine .ite (λ _=>.of hp rfl) λ _=>.ite (λ e=>.of hp ?_) λ _=>.ite (λ _=>.of hp (h.g0 9 (by decide) hp)) λ _=>.ite (λ _=>.of hp (h.g0 10 (by decide) hp)) λ _=>.ite (λ _=>.of hp (h.g0 0 (by decide) hp)) λ _=>?_
 ·have:=TX (.inl e);rw[bU (by omega)];exact h.get (hD _ (by omega) (by omega)) hp
 refine .ite (λ _=>.of hp rfl) λ _=>.ite (λ _=>.of hp rfl) λ _=>.ite (λ _=>.of hp rfl) λ _=>.ite (λ _=>.of hp rfl) λ _=>.ite (λ _=>.of hp rfl) λ _=>.ite (λ _=>.of hp rfl) λ _=>.ite (λ _=>.of hp rfl) λ _=>.ite (λ _=>.of hp rfl) λ _=>.ite (λ _=>.of hp rfl) λ _=>?_;refine .ite (λ e=>?_) λ _=>.ite (λ e=>.of hp ?_) λ _=>.ite (λ e=>.of ?_ rfl) λ _=>?_
 ·have:=TX (.inr e);rw[bU (by omega)];exact .of (h.set _ (hD _ (by omega) (by omega)) hp) rfl
 ·split
  ·next e2 =>
   rw[Rz hV e2 (h8 (.inl e))];exact h.get (ha (.inl e) e2 _ (h8 (.inl e)).1 (h8 (.inl e)).2) hp
  ·rfl
 ·refine dj (λ e2=>?_) λ _=>hp;rw[Rz hV e2 (h8 (.inr e))];exact h.set _ (ha (.inr e) e2 _ (h8 (.inr e)).1 (h8 (.inr e)).2) hp
 refine .ite (λ _=>.of (h.s0 6 _ (by decide) hp) rfl) λ _=>.ite (λ _=>.of (dj (λ _=>h.s0 6 _ (by decide) hp) λ _=>hp) rfl) λ _=>.ite (λ _=>?_) λ _=>.of hp rfl;exact(MM h a b hp).m
theorem MO(h:Loc D P)(hD:PG D){S:Setup}(hV:SetV S)(code:List Ins)(n:Nat)(j_:∀k:Int,1 <= k -> k <= 2 -> 0 <= M.get 7-k -> M.get 7-k<16 -> ub D S (M.get (16+(M.get 7-k))))(hp:P M N):RP P (ak S code n M) (ak S code n N):=by
 have e6:=h.g0 6 (by decide) hp;have e7:=h.g0 7 (by decide) hp;have e8:=h.g0 8 (by decide) hp;have er:cY code n M↔cY code n N:=by unfold cY aU;rw[e6,e7,e8]
 unfold ak
 by_cases hr:cY code n M
 ·rw[if_pos hr,if_pos (er.1 hr)];have hc:aU code M=aU code N:=by unfold aU;rw[e6]
  rw[<- hc,<- e6,<- e7,<- e8];obtain⟨_,_,_,hx⟩:=hr;obtain⟨agT,Vu,Zz,hq,hn⟩:=zQ hx;have heb:=Rf agT;generalize (aU code M).op=op at *;generalize (aU code M).n=k at *;have hs:aV (M.get 7-eP op)=M.get 7-eP op:=bU (by omega);have W6:aV (16+M.get 7)=16+M.get 7:=bU (by omega);have hs2:aV (16+M.get 7-eP op)=16+M.get 7-eP op:=bU (by omega);have hs3:aV (16+M.get 7-eP op+1)=16+M.get 7-eP op+1:=bU (by omega);rw[hs] at hq;have hs4:aV (M.get 7-eP op+eQ op)=M.get 7-eP op+eQ op:=bU (by omega);rw[hs4] at hq;have ha:dC op (M.get 7) M=dC op (M.get 7) N:=by
   unfold dC;rw[W6,hs2];split
   ·exact h.get (hD _ (by omega) (by omega)) hp
   ·split
    ·exact h.get (hD _ (by omega) (by omega)) hp
    ·rfl
  have hb:dQ op (M.get 7) M=dQ op (M.get 7) N:=by
   unfold dQ;rw[W6,hs2,hs3];split
   ·exact h.get (hD _ (by omega) (by omega)) hp
   ·rfl
  have hm:P (dD op (M.get 7) (M.get 6) (M.get 8) M) (dD op (M.get 7) (M.get 6) (M.get 8) N):=by
   unfold dD;exact dj (λ _=>h.s0 6 _ (by decide) (h.s0 8 _ (by decide) hp)) λ _=>h.s0 7 _ (by decide) (h.s0 6 _ (by decide) (h.s0 8 _ (by decide) hp))
  have hD4:op=4 \/ op=5 -> ub D S (dC op (M.get 7) M):=by
   rintro(rfl|rfl)
   ·have e1:eP 4=1:=by decide
    have:=j_ 1 (by decide) (by decide) (by omega) (by omega);unfold dC;rw[W6,hs2,e1];rw[if_neg (by decide),if_pos rfl];rwa [show 16+M.get 7-1=16+(M.get 7-1) by omega]
   ·have e1:eP 5=2:=by decide
    have:=j_ 2 (by decide) (by decide) (by omega) (by omega);unfold dC;rw[W6,hs2,e1];rw[if_pos rfl];rwa [show 16+M.get 7-2=16+(M.get 7-2) by omega]
  have hst:RP P (bP S op k (M.get 7) (M.get 6) (M.get 8) M) (bP S op k (M.get 7) (M.get 6) (M.get 8) N):=by
   unfold bP;rw[<- ha,<- hb];exact MN h hD hV _ _ hn hD4 hm
  unfold cr;rw[W6,hs2];refine .ite (λ e=>?_) λ _=>hst;refine⟨?_,hst.2.1,hst.2.2.1,hst.2.2.2⟩;rw[hst.2.1];exact h.set _ (hD _ (by omega) (by omega)) hst.1
 ·rw[if_neg hr,if_neg λ e=>hr (er.2 e)];exact .of hp rfl
theorem PH(h:Loc D P)(code:List Ins)(n:Nat)(hp:P M N):bn code n M=bn code n N:=by
 have hc:aU code M=aU code N:=by unfold aU;rw[h.g0 6 (by decide) hp]
 have er:cY code n M↔cY code n N:=by unfold cY aU;rw[h.g0 6 (by decide) hp,h.g0 7 (by decide) hp,h.g0 8 (by decide) hp]
 unfold bn
 by_cases hr:cY code n M
 ·rw[if_pos hr,if_pos (er.1 hr),hc]
 ·rw[if_neg hr,if_neg λ e=>hr (er.2 e)]
theorem J6(h:Loc D P)(e f a b:Int)(hp:P M N):P (aN e f a b M) (aN e f a b N):=by
 unfold aN;exact dj (λ _=>hp) λ _=>h.s0 10 _ (by decide) (h.s0 9 _ (by decide) (h.s0 8 _ (by decide) (h.s0 7 _ (by decide) (h.s0 6 _ (by decide) hp))))
theorem Cm(h:Loc D P)(hD:PG D)(e:Int)(t:Stp)(hV:SetV t.S)(j_:∀k:Int,1 <= k -> k <= 2 -> 0 <= M.get 7-k -> M.get 7-k<16 -> ub D t.S (M.get (16+(M.get 7-k))))(a b:Int)(hp:P M N):RP P (eO e t a b M) (eO e t a b N) /\ db e t a b M=db e t a b N:=by
 have h1:=J6 h e t.S.fuel a b hp;constructor
 ·unfold eO;exact .ite (λ _=>.ite (λ _=>.of h1 rfl) λ _=>.of (h.s0 3 _ (by decide) h1) rfl) λ _=>(MO h hD hV t.code t.cn j_ hp).m
 ·unfold db;rw[PH h t.code t.cn hp]
theorem DY(h:Loc D P){r s:VR}(hr:RP P r s)(over:Bool)(t:Stp)(Tb:Bool)(hp:P M N):RP P (dq r over t Tb M) (dq s over t Tb N):=by
 have h2:RP P ⟨r.M,0,r.e,r.em⟩ ⟨s.M,0,s.e,s.em⟩:=hr.m;unfold dq;refine .ite (λ _=>.ite (λ _=>.ite (λ _=>?_) λ _=>h2) λ _=>.of (h.s0 2 _ (by decide) hp) rfl) λ _=>.ite (λ _=>?_) λ _=>h2
 ·exact⟨h.s0 2 _ (by decide) hr.1,rfl,hr.2.2.1,hr.2.2.2⟩
 ·exact⟨h.s0 2 _ (by decide) (h.s0 3 _ (by decide) hr.1),rfl,hr.2.2.1,hr.2.2.2⟩
theorem PJ(h:Loc D P)(hD:PG D)(t:Stp)(hV:SetV t.S)(iS:RY D t.S t.i)(j_:∀k:Int,1 <= k -> k <= 2 -> 0 <= M.get 7-k -> M.get 7-k<16 -> ub D t.S (M.get (16+(M.get 7-k))))(hp:P M N):RP P (ff t M) (ff t N):=by
 unfold ff;refine .ite (λ _=>.of (jo h t 2 0 hp) rfl) λ e=>?_;rw[h.get (iS (by omega) 2 (by decide) (by decide)) hp];obtain⟨h1,h2⟩:=Cm h hD t.e0 t hV j_ t.i (N.get (ah t.S t.i+2)) hp;have h3:=DY h h1 (db t.e0 t t.i (N.get (ah t.S t.i+2)) N) t (!decide (N.get (ah t.S t.i+2)=0)) hp;unfold cP cj jv;rw[h2];exact h3.m
theorem PK(h:Loc D P)(hD:PG D)(t:Stp)(hV:SetV t.S)(hb:ub D t.S t.i)(j_:∀k:Int,1 <= k -> k <= 2 -> 0 <= M.get 7-k -> M.get 7-k<16 -> ub D t.S (M.get (16+(M.get 7-k))))(hp:P M N):RP P (fg t M) (fg t N):=by
 unfold fg;refine .ite (λ _=>.of (jo h t 7 0 hp) rfl) λ e=>?_;rw[h.get (hb (by omega) 6 (by decide) (by decide)) hp];obtain⟨h1,h2⟩:=Cm h hD t.e2 t hV j_ t.i (aV (N.get (af t.S t.i+6)-1)) hp;have h3:=DY h h1 (db t.e2 t t.i (aV (N.get (af t.S t.i+6)-1)) N) t (!decide (N.get (af t.S t.i+6)=0)) hp;unfold cQ cm jx;rw[h2];exact h3.m
theorem MP(h:Loc D P)(hD:PG D)(t:Stp)(hV:SetV t.S)(j_:∀k:Int,1 <= k -> k <= 2 -> 0 <= M.get 7-k -> M.get 7-k<16 -> ub D t.S (M.get (16+(M.get 7-k))))(hp:P M N):RP P (cS t M) (cS t N):=by
 obtain⟨h1,h2⟩:=Cm h hD t.e1 t hV j_ 0 0 hp;unfold cS dh jV;rw[h2];exact .ite (λ _=>⟨jo h t 3 0 h1.1,rfl,h1.2.2.1,h1.2.2.2⟩) λ _=>h1.m
end
theorem iP{S:Setup}{M:MemS}{y:Int}:y∈cW S M↔(((0 <= y /\ y<14) \/ ((M.get 1=1 \/ M.get 1=2 \/ M.get 1=6) /\ (16 <= y /\ y<48))) \/ ((M.get 1=0 \/ M.get 1=1 \/ M.get 1=3) /\ 0 <= ah S (M.get 2) /\ ah S (M.get 2) <= y /\ y<ah S (M.get 2)+4)) \/ ∃b,b∈lH M /\ 0 <= af S b /\ af S b <= y /\ y<af S b+8:=by
 unfold cW headL;rw[List.mem_append,List.mem_append,List.mem_append,List.mem_flatMap];refine or_congr (or_congr (or_congr ?_ ?_) ?_) ?_
 ·rw[tR];constructor <;> (intro h;omega)
 ·by_cases h:M.get 1=1 \/ M.get 1=2 \/ M.get 1=6
  ·rw[if_pos h,List.mem_append,tR,tR];exact⟨λ h2=>⟨h,by omega⟩,λ h2=>by have:=h2.2;omega⟩
  ·rw[if_neg h];exact⟨λ h2=>absurd h2 List.not_mem_nil,λ h2=>absurd h2.1 h⟩
 ·by_cases h:0 <= ah S (M.get 2) /\ (M.get 1=0 \/ M.get 1=1 \/ M.get 1=3)
  ·rw[if_pos h,tR];exact⟨λ h2=>⟨h.2,h.1,h2.1,by have:=h2.2;omega⟩,λ h2=>⟨h2.2.2.1,by have:=h2.2.2.2;omega⟩⟩
  ·rw[if_neg h];exact⟨λ h2=>absurd h2 List.not_mem_nil,λ h2=>absurd ⟨h2.2.1,h2.1⟩ h⟩
 ·have hb:∀b,y∈Gt S b↔0 <= af S b /\ af S b <= y /\ y<af S b+8:=λ b=>by
   unfold Gt;split
   ·rw[tR];constructor <;> (intro h;omega)
   ·exact⟨λ h=>absurd h List.not_mem_nil,λ h=>by omega⟩
  constructor
  ·rintro⟨b,UD,hy⟩;exact⟨b,DU.1 (DV.1 UD),(hb b).1 hy⟩
  ·rintro⟨b,UD,hy⟩;exact⟨b,DV.2 (DU.2 UD),(hb b).2 hy⟩
theorem J7{P:MemS -> MemS -> Prop}{g:Gm}(hV:SetV g.S){M N:MemS}(h:Loc (λ y=>y∈cW g.S M) P)(hp:P M N)(Tw:mX M):RP P (eV g M) (eV g N) /\ gS g M=gS g N:=by
 have hV1:=hV.pl;have hS:0 <= g.S.players:=by omega
 have e1:=h.g0 1 (by decide) hp;have e2:=h.g0 2 (by decide) hp;have e3:=h.g0 3 (by decide) hp;have et:g.step M=g.step N:=by unfold Gm.step;rw[e2,e3]
 have hbd:∀b,b∈lH M -> ub (λ y=>y∈cW g.S M) g.S b:=λ b hb h0 c c0 c8=>iP.2 (.inr ⟨b,hb,h0,by omega,by omega⟩);have hi:3 <= M.get 1 -> ub (λ y=>y∈cW g.S M) g.S (M.get 2):=λ h3=>hbd _ (by
  unfold lH;rw[List.mem_append,List.mem_append,if_pos (c:=3 <= M.get 1 /\ M.get 1 <= 7) ⟨h3,Tw.2⟩];exact .inl (.inr (List.mem_singleton.2 rfl)))
 have hj:M.get 1=4 \/ M.get 1=5 -> ub (λ y=>y∈cW g.S M) g.S (M.get 3):=λ h3=>hbd _ (by
  unfold lH;rw[List.mem_append,if_pos h3];exact .inr (List.mem_singleton.2 rfl))
 have iS:M.get 1=0 \/ M.get 1=1 \/ M.get 1=3 -> RY (λ y=>y∈cW g.S M) g.S (M.get 2):=λ h3 h0 c c0 c4=>iP.2 (.inl (.inr ⟨h3,h0,by omega,by omega⟩));have hD:M.get 1=1 \/ M.get 1=2 \/ M.get 1=6 -> PG (λ y=>y∈cW g.S M):=λ h3 i h0 h1=>iP.2 (.inl (.inl (.inr ⟨h3,h0,h1⟩)));have j_:M.get 1=1 \/ M.get 1=2 \/ M.get 1=6 -> ∀k:Int,1 <= k -> k <= 2 -> 0 <= M.get 7-k -> M.get 7-k<16 -> ub (λ y=>y∈cW g.S M) g.S (M.get (16+(M.get 7-k))):=λ h3 k k1 k2 h0 h1=>hbd _ (by
  have hk:M.get (16+(M.get 7-k))∈Ci M k:=by
   unfold Ci;rw[show i64.wrap (M.get 7-k)=M.get 7-k from bU (by omega),if_pos ⟨h0,h1⟩];exact List.mem_singleton.2 rfl
  unfold lH jn;rw[List.mem_append,List.mem_append,if_pos h3,List.mem_append];refine .inl (.inl ?_);rcases(show k=1 \/ k=2 by omega) with rfl|rfl
  ·exact .inl hk
  ·exact .inr hk)
 constructor
 ·unfold eV;rw[<- et,<- e1];have mk:∀ {A B:MemS},P A B -> RP P ⟨A,0,bz,false⟩ ⟨B,0,bz,false⟩:=λ h=>.of h rfl;refine .ite (λ e=>mk (J3 h (g.step M) (iS (.inl e)) hp)) λ h0=>.ite (λ e=>PJ h (hD (.inl e)) (g.step M) hV (iS (.inr (.inl e))) (j_ (.inl e)) hp) λ h1=>.ite (λ e=>MP h (hD (.inr (.inl e))) (g.step M) hV (j_ (.inr (.inl e))) hp) λ h2=>.ite (λ e=>mk (J4 h (g.step M) hS (hi (by omega)) (iS (.inr (.inr e))) hp)) λ h3=>.ite (λ e=>mk (Ck h (g.step M) hS (hi (by omega)) (hj (.inl e)) hp)) λ h4=>.ite (λ e=>mk (MK h (g.step M) hS (hi (by omega)) (hj (.inr e)) hp)) λ h5=>.ite (λ e=>PK h (hD (.inr (.inr e))) (g.step M) hV (hi (by omega)) (j_ (.inr (.inr e))) hp) λ h6=>mk (ML h (g.step M) (hi ?_) hp);have:=Tw.1;omega
 ·unfold gS;rw[<- et,<- e1]
theorem MQ{g:Gm}(hV:SetV g.S){M:MemS}(Tw:mX M){y:Int}(hy:¬ y∈cW g.S M):(eR g M).get y=M.get y:=by
 have key:Loc (λ y=>y∈cW g.S M) (λ A B=>A=B /\ A.get y=M.get y):=by
  refine⟨λ _ h=>by rw[h.1],λ {A B i} v hi h=>⟨by rw[h.1],?_⟩,λ i h0 h1=>iP.2 (.inl (.inl (.inl ⟨h0,h1⟩)))⟩;rw[bj (λ e=>hy (by rw[e];exact hi))];exact h.2
 exact(J7 hV key ⟨rfl,rfl⟩ Tw).1.1.2
theorem Cn{g:Gm}(hV:SetV g.S){M:MemS}(Tw:mX M):(eR g M).cs.length=M.cs.length:=by
 have key:Loc (λ y=>y∈cW g.S M) (λ A B=>A=B /\ A.cs.length=M.cs.length):=by
  refine⟨λ _ h=>by rw[h.1],λ {A B i} v hi h=>⟨by rw[h.1],?_⟩,λ i h0 h1=>iP.2 (.inl (.inl (.inl ⟨h0,h1⟩)))⟩;rw[aK];exact h.2
 exact(J7 hV key ⟨rfl,rfl⟩ Tw).1.1.2
theorem xu(S:Setup)(M:MemS):(cW S M).length <= 100:=by
 unfold cW;have h1:=qC S M;have h2:=Cj S (Lib.compact (DT (lH M))) (Lib.compact (DT (lH M))).length;rw[List.take_length] at h2;have h3:=Lib.compact_length_le (DT (lH M));rw[r7] at h3;have h4:=F9 M;rw[aaV];omega
def Stp.cut(t:Stp):Stp:={ t with S:=t.S.std }
theorem kL{S:Setup}{k:Nat}(h:k<S.nb):S.std.body k=S.body k:=by
 show (je S).getD (0+k) dB=_;rw[Nat.zero_add];exact gG h
theorem tS{S:Setup}{k:Int}:movP S.std k↔movP S k:=and_congr_right λ h=>by
 have h2:0 <= k /\ k<S.nb:=h;rw[kL (by omega)]
theorem jO{S:Setup}{k:Int}(h:0 <= k /\ k<S.nb)(M:MemS):al S.std M k=al S M k:=by
 unfold al;rw[kL (by omega)];rfl
theorem Gb(t:Stp)(M:MemS):cT t.cut M=cT t M:=by
 unfold cT;refine ite_congr rfl (λ e1=>ite_congr rfl (λ e2=>?_) λ _=>rfl) λ _=>rfl;have e1':0 <= t.i /\ t.i<t.S.nb:=e1;have e2':0 <= t.j /\ t.j<t.S.nb:=e2;have c1:mW t.cut M=mW t M:=by
  show cy (t.S.std.body t.i.toNat).sh ⟨(al t.S.std M t.i).px,(al t.S.std M t.i).py⟩ (t.S.std.body t.j.toNat).sh ⟨(al t.S.std M t.j).px,(al t.S.std M t.j).py⟩=_;rw[kL (by omega),kL (by omega),jO e1',jO e2'];rfl
 have c2:pT t.cut M=pT t M:=by
  show cz (al t.S.std M t.i) (al t.S.std M t.j) (mW t.cut M).1 t.S.rest=_;rw[c1,jO e1',jO e2'];rfl
 rw[c1];refine ite_congr rfl (λ _=>?_) λ _=>rfl;unfold fS;rw[c2];rfl
theorem Am(t:Stp)(M:MemS):bq t.cut M=bq t M:=by
 unfold bq;rw[Gb];rfl
theorem J8(t:Stp)(M:MemS)(hj:0 <= t.j /\ t.j<t.S.nb):dZ t.cut M=dZ t M:=by
 unfold dZ;refine ite_congr rfl (λ _=>rfl) λ _=>ite_congr (propext tS) (λ e=>?_) λ _=>rfl;have e1:0 <= t.i /\ t.i<t.S.nb:=e.1;have c1:nO t.cut M=nO t M:=by
  show lX (t.S.std.body t.i.toNat).sh ⟨(al t.S.std M t.i).px,(al t.S.std M t.i).py⟩ ⟨(al t.S.std M t.i).vx,(al t.S.std M t.i).vy⟩ (t.S.std.body t.j.toNat).sh ⟨(al t.S.std M t.j).px,(al t.S.std M t.j).py⟩ ⟨0,0⟩=_;rw[kL (by omega),kL (by omega),jO e1,jO hj];rfl
 rw[c1]
theorem Co(t:Stp)(M:MemS)(h:0 <= t.i /\ t.i<t.S.nb):bH t.cut M=bH t M:=by
 have c1:eM t.cut M=eM t M:=by
  show aC ⟨(al t.S.std M t.i).px,(al t.S.std M t.i).py⟩ (eJ ⟨(al t.S.std M t.i).vx,(al t.S.std M t.i).vy⟩ (jH M) 1024)=_;rw[jO h];rfl
 unfold bH;rw[c1];rfl
theorem J9(t:Stp)(M:MemS):dg t.cut M=dg t M:=by
 unfold dg;refine ite_congr rfl (λ e=>?_) λ _=>?_
 ·rw[J8 t M e];rfl
 ·show fM t (if movP t.S.std t.i then bH t.cut M else M)=fM t (if movP t.S t.i then bH t M else M);congr 1;exact ite_congr (propext tS) (λ e=>Co t M e.1) λ _=>rfl
theorem Gc(t:Stp)(M:MemS):aL t.cut M=aL t M:=by
 have h1:∀N,bB t.cut N=bB t N:=λ N=>by
  unfold bB;refine ite_congr (propext tS) (λ e=>?_) λ _=>rfl;have e1:0 <= t.i /\ t.i<t.S.nb:=e.1;have c1:bF t.cut N=bF t N:=by
   show ao (if ah t.S t.i >= 0 then aC (aC ⟨(al t.S.std N t.i).vx,(al t.S.std N t.i).vy⟩ t.S.g) ⟨aV (N.get (ah t.S t.i+0)*t.S.push),aV (N.get (ah t.S t.i+1)*t.S.push)⟩ else aC ⟨(al t.S.std N t.i).vx,(al t.S.std N t.i).vy⟩ t.S.g) (aV (1024-t.S.drag))=_;rw[jO e1];rfl
  rw[c1];rfl
 unfold aL;rw[h1];rfl
def Gm.cut(g:Gm):Gm:={ g with S:=g.S.std }
theorem MR(g:Gm)(M:MemS):eV g.cut M=eV g M:=by
 unfold eV;rw[show g.cut.step M=(g.step M).cut from rfl,Am,J9,Gc];rfl
theorem Cp{S:Setup}(hV:SetV S){M:MemS}{y:Int}(h:y∈cW S M):0 <= y /\ y<sizeOf S:=by
 have h1:=hV.pl;have h2:=hV.nb;unfold sizeOf;rcases iP.1 h with ((h|⟨_,h⟩)|⟨_,h3,h4,h5⟩)|⟨b,_,h3,h4,h5⟩
 ·omega
 ·omega
 ·rcases qm (S:=S) (M.get 2) with ⟨e,_⟩|⟨a,b,e⟩ <;> omega
 ·rcases lh (S:=S) (by omega) b with e|⟨a,b,e⟩ <;> omega
def AgD(D:Int -> Prop)(A B:MemS):Prop:=A.cs.length=B.cs.length /\ ∀y,D y -> A.get y=B.get y
theorem MS{D:Int -> Prop}(hl:∀i:Int,0 <= i -> i<14 -> D i):Loc D (AgD D) where
 get:=λ hi h=>h.2 _ hi
 set:=λ {A B i} v hi h=>by
  refine⟨by rw[aK,aK,h.1],λ y hy=>?_⟩
  by_cases e:y=i
  ·subst e;unfold MemS.set;rw[h.1];split
   ·next c =>
    unfold MemS.get;simp only[List.length_set];rw[h.1,if_pos c,if_pos c,aaK,aaK,List.getElem?_set_self (by rw[h.1];omega),List.getElem?_set_self (by omega)]
   ·exact h.2 y hy
  ·rw[bj e,bj e];exact h.2 y hy
 low:=hl
theorem Ge{g:Gm}(hV:SetV g.S){M N:MemS}(hlen:M.cs.length=N.cs.length)(hag:∀y,y∈cW g.S M -> M.get y=N.get y)(Tw:mX M) :
  mX N /\ (eR g N).cs.length=M.cs.length /\ ∀y,(if y∈cW g.S M then (eR g N).get y else M.get y)=(eR g M).get y:=by
 have hl:∀i:Int,0 <= i -> i<14 -> i∈cW g.S M:=λ i h0 h1=>iP.2 (.inl (.inl (.inl ⟨h0,h1⟩)));have h:=(J7 hV (MS (D:=λ y=>y∈cW g.S M) hl) ⟨hlen,hag⟩ Tw).1.1;have h1:=hag 1 (hl 1 (by decide) (by decide));refine⟨?_,?_,λ y=>?_⟩
 ·unfold mX at Tw ⊢;rw[<- h1];exact Tw
 ·exact h.1.symm.trans (Cn hV Tw)
 ·split
  ·next c=>exact(h.2 y c).symm
  ·next c=>exact(MQ hV Tw c).symm
theorem oy:∀ (l:List (Nat × Int)) (xs:List Int) (x:Nat × Int),ia xs (l++[x])=(ia xs l).set x.1 x.2
 | [],_,_=>rfl
 | y::l,xs,x=>by
  rw[List.cons_append,ia,ia,oy l]
theorem gm:∀ (l:List (Nat × Int)) (xs:List Int),(ia xs l).length=xs.length
 | [],_=>rfl
 | y::l,xs=>by rw[ia,gm l,List.length_set]
theorem qD(f:Nat -> Int){y:Nat}:∀ (js:List Nat) (xs:List Int),y<xs.length -> (ia xs (js.map λ j=>(j,f j))).getD y 0=if y∈js then f y else xs.getD y 0
 | [],xs,_=>by rw[if_neg (by simp)];rfl
 | j::js,xs,h=>by
  rw[List.map_cons,ia,qD f js _ (by rw[List.length_set];exact h)]
  by_cases h1:y∈js
  ·rw[if_pos h1,if_pos (by simp[h1])]
  ·rw[if_neg h1]
   by_cases e:y=j
   ·subst e;rw[if_pos (by simp),aaK,List.getElem?_set_self h];rfl
   ·rw[if_neg (by simp[h1,e]),aaK,aaK,List.getElem?_set_ne (λ h2=>e h2.symm)]
def jB(S:Setup)(M:MemS):List Nat:=(cW S M).map Int.toNat
theorem tT(S:Setup)(M:MemS):(jB S M).length=(cW S M).length:=by simp[jB]
theorem tU{S:Setup}(hV:SetV S){M:MemS}{j:Nat}:j∈jB S M↔(j:Int)∈cW S M:=by
 unfold jB;rw[List.mem_map];constructor
 ·rintro⟨y,hy,rfl⟩;rw[Int.toNat_of_nonneg (Cp hV hy).1];exact hy
 ·intro h;exact⟨_,h,rfl⟩
theorem MT{S:Setup}(hV:SetV S){M:MemS}{i:Nat}(h:i<(cW S M).length):∃jj:Nat,(cW S M).getD i 0=(jj:Int) /\ (jj:Int)<sizeOf S /\ (jB S M).take (i+1)=(jB S M).take i++[jj]:=by
 have hm:(cW S M).getD i 0∈cW S M:=by
  rw[aaK,aa3 h];exact List.getElem_mem h
 have hb:=Cp hV hm;refine⟨((cW S M).getD i 0).toNat,by omega,by omega,?_⟩;rw[List.take_add_one];unfold jB;rw[abv,aa3 h,aaK,aa3 h];rfl
theorem Ka{a b:List Int}(hl:a.length=b.length)(h:∀y,y<a.length -> a.getD y 0=b.getD y 0):a=b:=by
 apply List.ext_getElem hl;intro i h1 h2;have:=h i h1;rw[aaK,aa3 h1,aaK,aa3 h2] at this;exact this
def Gf(S:Setup)(M:MemS):List Int:=ia (List.replicate M.cs.length 0) ((jB S M).map λ j=>(j,M.cs.getD j 0))
theorem An(S:Setup)(M:MemS):(Gf S M).length=M.cs.length:=by
 unfold Gf;rw[gm,List.length_replicate]
theorem Gg{g g':Gm}(e:∀A,eR g A=eR g' A)(hV:SetV g.S){M N:MemS}{L:List Int}(hL:L=Gf g.S M)(hN:N.cs=L)(C_:(M.cs.length:Int)=sizeOf g.S)(Tw:mX M) :
  mX N /\ (eR g' N).cs.length=M.cs.length /\
  ia M.cs ((jB g.S M).map λ j=>(j,(eR g' N).get (j:Int)))=(eR g M).cs:=by
 have Tg:N.cs.length=M.cs.length:=by rw[hN,hL,An]
 have hag:∀y,y∈cW g.S M -> M.get y=N.get y:=λ y hy=>by
  have hb:=Cp hV hy;obtain⟨k,rfl⟩:∃k:Nat,y=(k:Int):=⟨y.toNat,by omega⟩;have e1:=oY (M:=M) (i:=k) (by omega);have e2:=oY (M:=N) (i:=k) (by omega);rw[e1,e2,hN,hL];unfold Gf;rw[qD (λ j=>M.cs.getD j 0) _ _ (by rw[List.length_replicate];omega),if_pos ((tU hV).2 hy)]
 clear hL hN;obtain⟨h1,h2,h3⟩:=Ge hV Tg.symm hag Tw;have hlen:(eR g M).cs.length=M.cs.length:=Cn hV Tw;rw[<- e];refine⟨h1,h2,Ka (by rw[gm,hlen]) λ y hy=>?_⟩;rw[gm] at hy;have h4:=h3 (y:Int);have e1:=oY (M:=eR g M) (i:=y) (by omega);have e2:=oY (M:=M) (i:=y) hy;rw[qD (λ j=>(eR g N).get (j:Int)) _ _ hy,<- e1,<- h4,<- e2]
 by_cases c:y∈jB g.S M
 ·rw[if_pos c,if_pos ((tU hV).1 c)]
 ·rw[if_neg c,if_neg (λ h=>c ((tU hV).2 h))]
theorem qE(g:Gm):∀ (n:Nat) (M:MemS),eI g (n+1) M=eR g (eI g n M)
 | 0,_=>rfl
 | n+1,M=>by
  rw[eI,qE g n];rfl
theorem xv{g:Gm}:∀ (k m:Nat) (M:MemS),cH g (m+1) M -> k <= m -> mX (eI g k M)
 | 0,_,_,h,_=>h.1
 | k+1,m,M,h,hk=>by
  rcases h.2 with ⟨e,_⟩|⟨_,e⟩
  ·omega
  ·obtain⟨m,rfl⟩:∃m',m=m'+1:=⟨m-1,by omega⟩;exact xv k m (eR g M) e (by omega)
theorem pE{g:Gm}(hV:SetV g.S){m:Nat}{M:MemS}(h:cH g (m+1) M):∀k,k <= m+1 -> (eI g k M).cs.length=M.cs.length
 | 0,_=>rfl
 | k+1,hk=>by
  rw[qE,Cn hV (xv k m M h (by omega)),pE hV h k (by omega)]
theorem Kb(S:Setup)(bp xp n1 n2 n3 rc sc lc:Nat)(rA sA lA:Option Addr)(ct tr ix vv:Int)(t:Nat)(ll:List Int)(F:HL)(hx:(xp,.lit (Setup.l S++[vP bp 0,.slice rA n1 rc,vI ct,vI tr,vI ix,vI vv,.slice sA n2 sc,.slice lA n3 lc]) 235 (0,0))∈F)(hll:RowL dE 3 F lA n3 ll)(ht3:t<n3):Sp Tryz.prog 343 #[vP xp 0,vI (t:Int)] [] F (λ u H'=>u=vI (ll.getD t 0) /\ H'=[]):=by
 refine aas Tryz.func343 rfl (mc hx mn) (A:=[]) (Ts:=[]) rfl λ w0=>?_;refine ae 11 [] λ _=>aal ((t:Int)<0) 7 (λ h1=>?_) λ h1=>?_
 ·(exfalso;omega)
 ·refine ae 10 [.ro 0] λ _=>aal ((t:Int) >= (n3:Int)) 15 (λ h2=>?_) λ h2=>?_
  ·(exfalso;omega)
  ·refine ae 10 [.ro 0] λ _=>?_;obtain⟨qx3,X3,Nx3,fx3,aiq,abt,aaH,agQ,aa0⟩:=hll.at (k:=t) (by omega);refine aS 19 (congrArg (λ v_=>(.slice v_ n3 lc:Value)) abt)<|RN.ro (λ _=>(mc hx (mc aaH mn)))<|ai 2 [.ix t,.rorow 1 (X3+t) 0] [(X3*1+t*1)=(X3+t)*1+0 /\ (X3+t)<Nx3,(t:Int)=((t:Nat):Int) /\ t<n3] λ _=>aS 22 (congrArg (λ v_=>(vI v_:Value)) aa0)<|ae 3 [] λ _=>?_;exact aap [] [] [] ⟨rfl,rfl⟩
theorem Ao(S:Setup)(bp xp n1 n2 n3 rc sc lc:Nat)(rA sA lA:Option Addr)(ct tr ix vv:Int)(t:Nat)(ll:List Int)(F:HL)(hx:(xp,.lit (Setup.l S++[vP bp 0,.slice rA n1 rc,vI ct,vI tr,vI ix,vI vv,.slice sA n2 sc,.slice lA n3 lc]) 235 (0,0))∈F)(hll:RowL dE 3 F lA n3 ll)(ht3:t<n3)(κ:Nat)(WQ:(κ:Int) <= ll.getD t 0):Sp Tryz.prog 346 #[vP xp 0,vI (t:Int),vI (κ:Int)] [] F (λ u H'=>u=.bool true /\ H'=[]):=by
 refine aas Tryz.func346 rfl (mc hx mn) (A:=[]) (Ts:=[]) rfl λ w0=>?_;refine ae 10 [] λ _=>cD 9 (abA (show (t:Int) >= 0 by omega))<|ae 9 [.ro 0] λ _=>cD 18 (abA (show (t:Int)<(n3:Int) by omega))<|ae 4 [] λ _=>cD 22 (abA (show (κ:Int) >= 0 by omega))<|ae 6 [.ro 0] λ _=>?_;obtain⟨qx1,X7,Nx1,fx1,air,abu,Yl,agR,aa1⟩:=hll.at (k:=t) (by omega);refine aS 27 (congrArg (λ v_=>(.slice v_ n3 lc:Value)) abu)<|RN.ro (λ _=>(mc hx (mc Yl mn)))<|ai 2 [.ix t,.rorow 1 (X7+t) 0] [(X7*1+t*1)=(X7+t)*1+0 /\ (X7+t)<Nx1,(t:Int)=((t:Nat):Int) /\ t<n3] λ _=>aS 30 (congrArg (λ v_=>(vI v_:Value)) aa1)<|ae 5 [] λ _=>aap [] [] [] (v:=.bool (decide ((κ:Int) <= ll.getD t 0))) (H':=[]) ?_;exact⟨congrArg Value.bool (abA WQ),rfl⟩
theorem wh(S:Setup)(bp xp n1 n2 n3 rc sc lc q b o N cc m k:Nat)(rA sA lA:Option Addr)(ct tr ix vv:Int)(κ t:Nat)(j:Nat × Int)(rl sl:List Rw)(full xs:List Inp)(cs:List Int)(F:HL)(hx:(xp,.lit (Setup.l S++[vP bp 0,.slice rA n1 rc,vI ct,vI tr,vI ix,vI vv,.slice sA n2 sc,.slice lA n3 lc]) 235 (0,0))∈F)(hS:SetIn F S)(hE:dp F)(hj:j.1<5)(hA:AtOk F bp (t:Int) j)(hsl:RowL jz 22 F sA n2 sl)(Zk:t<n2)(hst:sl.getD t jz.dflt=⟨some ⟨q,0,none⟩,cs.length,cs.length⟩)(hq:(q,.rows 1 cs.length (aM cs) 3 (0,0))∈F)(hrl:RowL jz 56 F rA n1 rl)(ht1:t<n1)(hrw:rl.getD t jz.dflt=⟨some ⟨b,o*3,none⟩,xs.length,cc⟩)(hI:(b,.rows 3 N (j9 full) 151 (0,0))∈F)(hir:o+xs.length <= N)(Tz:xs.length <= 1000000)(UG:∀k,k<xs.length -> full.getD (o+k) dI=xs.getD k dI)(BY:cs.length <= 1000000)(hg:ut (eU S j xs) (m8 (decide ((t:Int)=ct)) tr ix vv) (m+1) 0 ⟨cs,[],0⟩)(hm:m <= 999)(hk:k <= 1000000)(ht0:t <= 1000000)(NN:MemS)(hκ:κ <= m+1)(YF:nD (eU S j xs) (m8 (decide ((t:Int)=ct)) tr ix vv) κ 0 ⟨cs,[],0⟩=NN)(Xj:∀M,(m8 (decide ((t:Int)=ct)) tr ix vv) κ M=M):Sp Tryz.prog 113 #[vP xp 0,vI (t:Int),vI (κ:Int)] (ap [] []) F (λ u H'=>∃x:Nat × HL,H'=ap [] [x.2] /\ (u=.tuple #[vP x.1 0,vI (κ:Int)] /\ MemH x.1 NN k x.2)):=by
 refine(Aj S bp xp n1 n2 n3 rc sc lc q b o N cc m k rA sA lA ct tr ix vv (κ:Int) t j rl sl full xs cs F hx hS hE hj hA hsl Zk hst hq hrl ht1 hrw hI hir Tz UG BY hg hm hk ht0).mono λ u H' h=>?_;obtain⟨x,e,h⟩:=h;refine⟨x,e,?_⟩;rcases h with ⟨h1,h2,h3,h4⟩|⟨h1,h2,h3⟩
 ·rw[Int.toNat_natCast,YF,Xj] at h4;exact⟨h3,h4⟩
 ·obtain rfl:κ=m+1:=by omega
  rw[YF] at h3;exact⟨h2,h3⟩
theorem MU(S:Setup)(bp xp n1 n2 n3 rc sc lc q b o N cc m k:Nat)(rA sA lA:Option Addr)(ct tr ix vv:Int)(κ t:Nat)(j:Nat × Int)(rl sl:List Rw)(full xs:List Inp)(cs:List Int)(F:HL)(hx:(xp,.lit (Setup.l S++[vP bp 0,.slice rA n1 rc,vI ct,vI tr,vI ix,vI vv,.slice sA n2 sc,.slice lA n3 lc]) 235 (0,0))∈F)(hS:SetIn F S)(hE:dp F)(hj:j.1<5)(hA:AtOk F bp (t:Int) j)(hsl:RowL jz 22 F sA n2 sl)(Zk:t<n2)(hst:sl.getD t jz.dflt=⟨some ⟨q,0,none⟩,cs.length,cs.length⟩)(hq:(q,.rows 1 cs.length (aM cs) 3 (0,0))∈F)(hrl:RowL jz 56 F rA n1 rl)(ht1:t<n1)(hrw:rl.getD t jz.dflt=⟨some ⟨b,o*3,none⟩,xs.length,cc⟩)(hI:(b,.rows 3 N (j9 full) 151 (0,0))∈F)(hir:o+xs.length <= N)(Tz:xs.length <= 1000000)(UG:∀k,k<xs.length -> full.getD (o+k) dI=xs.getD k dI)(BY:cs.length <= 1000000)(hg:ut (eU S j xs) (m8 (decide ((t:Int)=ct)) tr ix vv) (m+1) 0 ⟨cs,[],0⟩)(hm:m <= 999)(hk:k <= 1000000)(ht0:t <= 1000000)(NN:MemS)(hκ:κ <= m+1)(YF:nD (eU S j xs) (m8 (decide ((t:Int)=ct)) tr ix vv) κ 0 ⟨cs,[],0⟩=NN)(Xj:∀M,(m8 (decide ((t:Int)=ct)) tr ix vv) κ M=M)(ll:List Int)(hll:RowL dE 3 F lA n3 ll)(ht3:t<n3)(WQ:(κ:Int) <= ll.getD t 0)(ZH:NN.cs.length <= 1000000):Sp Tryz.prog 342 #[vP xp 0,vI (t:Int),vI (κ:Int)] [] F (λ u H'=>u=.int .u64 (gx NN.cs) /\ H'=[]):=by
 refine aas Tryz.func342 rfl (mc hx mn) (A:=[]) (Ts:=[]) rfl λ w0=>?_;refine ae 11 [] λ _=>aah (Ao S bp xp n1 n2 n3 rc sc lc rA sA lA ct tr ix vv t ll _ (aq hx) hll.up ht3 κ WQ)<|ae 11 [] λ _=>aai (Hp:=[]) (Tp:=[]) [] [] (wh S bp xp n1 n2 n3 rc sc lc q b o N cc m k rA sA lA ct tr ix vv κ t j rl sl full xs cs _ (aq hx) hS.up (aq hE) hj (hA.mono λ x hx=>aq hx) hsl.up Zk hst (aq hq) hrl.up ht1 hrw (aq hI) hir Tz UG BY hg hm hk ht0 NN hκ YF Xj) ?_;rintro _ ⟨mq,Tq⟩ ⟨rfl,VG⟩;dsimp only at VG;refine ae 10 [] λ _=>aai (Hp:=[]) (Tp:=[]) [] [] (mA mq NN _ Tq _ VG (ay 0)) ?_;rintro _ q1 rfl;refine aah (qp q1 NN.cs.length NN.cs _ (au 0) (aaS _) ZH)<|ae 3 [] λ _=>?_;exact aap [] [] [] ⟨rfl,rfl⟩
def PoolOk(P:HL)(xs:List Int)(ls:List Lf)(js:List Nat):Prop:=∀F:HL,(∀x∈P,x∈F) -> LfsIn F xs ls js
theorem PoolOk.nil(xs:List Int):PoolOk [] xs [] []:=λ F _=>⟨rfl,λ k hk=>absurd hk (Nat.not_lt_zero _)⟩
theorem PoolOk.snoc{P:HL}{xs:List Int}{ls:List Lf}{js:List Nat}(h:PoolOk P xs ls js){j c:Nat}{A:Option Addr}{T:HL}(hs:SlIs jA 77 (cV xs j) A c T)(hj:j<xs.length)(h1:0<aA xs.length):PoolOk (P++T) xs (ls++[⟨(j:Int),xs.getD j 0,A,aA xs.length,c⟩]) (js++[j]):=λ F hF =>
 (h F λ x hx=>hF x (aav _ hx)).snoc (λ x hx=>hx) hs (λ x hx=>hF x (aau _ hx)) hj h1
theorem MW(S:Setup)(bp xp n1 n2 n3 rc sc lc q b o N cc m k:Nat)(rA sA lA:Option Addr)(ct tr ix vv:Int)(κ t:Nat)(j:Nat × Int)(rl sl:List Rw)(full xs:List Inp)(cs:List Int)(F:HL)(hx:(xp,.lit (Setup.l S++[vP bp 0,.slice rA n1 rc,vI ct,vI tr,vI ix,vI vv,.slice sA n2 sc,.slice lA n3 lc]) 235 (0,0))∈F)(hS:SetIn F S)(hE:dp F)(hj:j.1<5)(hA:AtOk F bp (t:Int) j)(hsl:RowL jz 22 F sA n2 sl)(Zk:t<n2)(hst:sl.getD t jz.dflt=⟨some ⟨q,0,none⟩,cs.length,cs.length⟩)(hq:(q,.rows 1 cs.length (aM cs) 3 (0,0))∈F)(hrl:RowL jz 56 F rA n1 rl)(ht1:t<n1)(hrw:rl.getD t jz.dflt=⟨some ⟨b,o*3,none⟩,xs.length,cc⟩)(hI:(b,.rows 3 N (j9 full) 151 (0,0))∈F)(hir:o+xs.length <= N)(Tz:xs.length <= 1000000)(UG:∀k,k<xs.length -> full.getD (o+k) dI=xs.getD k dI)(BY:cs.length <= 1000000)(hg:ut (eU S j xs) (m8 (decide ((t:Int)=ct)) tr ix vv) (m+1) 0 ⟨cs,[],0⟩)(hm:m <= 999)(hk:k <= 1000000)(ht0:t <= 1000000)(NN:MemS)(hκ:κ <= m+1)(YF:nD (eU S j xs) (m8 (decide ((t:Int)=ct)) tr ix vv) κ 0 ⟨cs,[],0⟩=NN)(Xj:∀M,(m8 (decide ((t:Int)=ct)) tr ix vv) κ M=M)(ll:List Int)(hll:RowL dE 3 F lA n3 ll)(ht3:t<n3)(WQ:(κ:Int) <= ll.getD t 0)(ZH:NN.cs.length <= 1000000)(hV:SetV S)(hNs:(NN.cs.length:Int)=sizeOf S):Sp Tryz.prog 344 #[vP xp 0,vI (t:Int),vI (κ:Int)] [] F (λ u H'=>∃x:(Option Addr × Nat × List Lf) × HL × HL,H'=ap [] [x.2.1,x.2.2] /\ (u=.slice x.1.1 (cW S NN).length x.1.2.1 /\ SlIs Cf 81 x.1.2.2 x.1.1 x.1.2.1 x.2.1 /\ x.1.2.2.length=(cW S NN).length /\ PoolOk x.2.2 NN.cs x.1.2.2 (jB S NN))):=by
 have agq:=xu S NN;have agt:48 <= sizeOf S:=by have ZM:=hV.pl;unfold sizeOf;omega
 have hh0:0<aA NN.cs.length:=(Px (n:=NN.cs.length) (i:=0) ZH).1 (by simp;omega);refine aas Tryz.func344 rfl (mc hx mn) (A:=[]) (Ts:=[]) rfl λ w0=>?_;refine ae 11 [] λ _=>aah (Ao S bp xp n1 n2 n3 rc sc lc rA sA lA ct tr ix vv t ll _ (aq hx) hll.up ht3 κ WQ)<|ae 11 [] λ _=>aai (Hp:=[]) (Tp:=[]) [] [] (wh S bp xp n1 n2 n3 rc sc lc q b o N cc m k rA sA lA ct tr ix vv κ t j rl sl full xs cs _ (aq hx) hS.up (aq hE) hj (hA.mono λ x hx=>aq hx) hsl.up Zk hst (aq hq) hrl.up ht1 hrw (aq hI) hir Tz UG BY hg hm hk ht0 NN hκ YF Xj) ?_;rintro _ ⟨mq,Tq⟩ ⟨rfl,VG⟩;dsimp only at VG;refine ae 10 [] λ _=>aai (Hp:=[]) (Tp:=[]) [] [] (mA mq NN _ Tq _ VG (ay 0)) ?_;rintro _ q1 rfl;refine aai (Hp:=[]) (Tp:=[]) [] [] (zV q1 NN.cs.length NN.cs _ (au 0) (aaS _) ZH) ?_;rintro _ ⟨t2,c3,n4⟩ rfl;refine ae 17 [.ro 0,.ro 0,.ro 0,.ro 0,.ro 0,.ro 0,.ro 0,.ro 0,.ro 0,.ro 0,.ro 0,.ro 0,.ro 0,.ro 0,.ro 0,.ro 0] λ _=>aai (Hp:=[]) (Tp:=[]) [] [] (Ak mq _ NN S Tq _ hS.toSetN VG (ay 0)) ?_;rintro _ ⟨l5,A6,c7,T8⟩ ⟨rfl,hs9,Z5,e11⟩;dsimp only at hs9 Z5 e11;subst e11;obtain⟨bT,oT,fT,rfl,rfl,amD,amC,ags⟩:=hs9.open (List.length_pos_of_mem (iP (S:=S) (M:=NN) (y:=0) |>.2 (.inl (.inl (.inl ⟨by decide,by decide⟩)))));refine qO 0 (x:=(bT,.rows 1 (oT+c7) (bu dE fT) 3 (0,0)))<|ae 5 [] λ _=>aao<|aao<|aan (σ:=Nat × Option Addr × Nat × List Lf × HL × HL) (λ ⟨i_,A_,c_,X8,E_,P_⟩=>⟨[(9,vP t2 0),(10,.slice A_ i_ c_),(34,vS bT (oT*1) ((cW S NN).length) c7),(35,vI (((cW S NN).length:Nat):Int)),(36,vI (i_:Int))],[(bT,.rows 1 (oT+c7) (bu dE fT) 3 (0,0)),(t2,.lit [vI (aA NN.cs.length:Int),vS c3 0 NN.cs.length NN.cs.length,vS n4 0 (2*kO NN.cs.length) (2*kO NN.cs.length)] 353 (0,0)),(c3,.rows 1 NN.cs.length (aM NN.cs) 3 (0,0)),(n4,.rows 1 (2*kO NN.cs.length) (iM (nC NN.cs (kO NN.cs.length) (kO NN.cs.length-1))) 77 (0,0)),(q1,.rows 1 NN.cs.length (aM NN.cs) 3 (0,0))],[E_,P_,Tq],i_ <= (cW S NN).length /\ SlIs Cf 81 X8 A_ c_ E_ /\ X8.length=i_ /\ PoolOk P_ NN.cs X8 ((jB S NN).take i_),(cW S NN).length-i_⟩) (0,none,0,[],[],[]) [0,1,2,3,4] [0,1,2] (⟨aaU _,aar _ _,rfl,PoolOk.nil _⟩) ?_;rintro⟨i_,A_,c_,X8,E_,P_⟩ ⟨Yu,IF,aaR,V3⟩ Vm;refine ae 6 [] λ _=>aal ((i_:Int)<(((cW S NN).length:Nat):Int)) 37 (λ Uh=>?_) λ Uh=>?_
 ·refine ae 7 [] λ _=>?_;obtain⟨jj,hjj,am_,ahn⟩:=MT hV (M:=NN) (i:=i_) (by omega);refine ai 2 [.ix i_,.row 0 (oT+i_) 0] [(oT*1+i_*1)=(oT+i_)*1+0 /\ (oT+i_)<(oT+c7),(i_:Int)=((i_:Nat):Int) /\ i_<((cW S NN).length)] λ _=>aS 39 (congrArg (λ v_=>(vI v_:Value)) ((ags i_ (by omega)).trans hjj))<|ae 7 [] λ _=>aai (Hp:=[]) (Tp:=[]) [] [] (Cd t2 c3 n4 jj NN.cs _ (au 1) (au 2) (au 3) (by omega) ZH) ?_;rintro _ ⟨A15,c16,Vc⟩ ⟨rfl,Yj⟩;dsimp only at Yj;refine ae 1 [] λ n19=>eA Rq X8 [(⟨(jj:Int),NN.cs.getD jj 0,A15,aA NN.cs.length,c16⟩:Lf)] 1 0 aaR.symm IF (by have h_:=xu S NN;simp;omega) ?_;rintro A20 c21 UX ⟨U6,Z4⟩;refine ai 8 [.nw] [bm ((i_:Int)+1)] λ _=>aS 36 (congrArg (λ v_=>(vI v_:Value)) (show (i_:Int)+1=((i_+1:Nat):Int) by omega))<|oO [2,1,0,3]<|qP ?_;refine Vm (i_+1,A20,c21,X8++[(⟨(jj:Int),NN.cs.getD jj 0,A15,aA NN.cs.length,c16⟩:Lf)],UX,P_++Vc) [1,2,3,4,5] [1,0,2] ?_
  try dsimp only
  refine⟨⟨by omega,U6,by rw[aaV,aaR];rfl,?_⟩,by omega⟩;rw[ahn];exact V3.snoc Yj (by omega) hh0
 ·refine ae 12 [] λ _=>aap [] [] [0,1] (v:=.slice A_ i_ c_) (H':=(ap [] [E_,P_])) ?_;obtain rfl:i_=(cW S NN).length:=by omega
  rw[List.take_of_length_le (by rw[tT];exact aaS _)] at V3;exact⟨((A_,c_,X8),E_,P_),rfl,rfl,IF,aaR,V3⟩
end Go.Proofs.YtghjbimijeinfaaGreatDoor
