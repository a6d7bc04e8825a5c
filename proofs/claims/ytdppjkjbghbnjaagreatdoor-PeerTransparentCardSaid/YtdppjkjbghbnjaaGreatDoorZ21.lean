import Derived.Test.YtdppjkjbghbnjaaGreatDoorRows
import Derived.Test.YtdppjkjbghbnjaaGreatDoorChecked
import Derived.ProofKit
import Derived.OpenShut
import Derived.Carry
import Derived.Lay
import Derived.LaidHandle
import Derived.ChangeSlices
import Derived.Lib.LaidTab
import Derived.MakeChecks
import Derived.Lib.SmallJoins
import Derived.Test.YtdppjkjbghbnjaaGreatDoorZ20
set_option maxHeartbeats 4000000
set_option maxRecDepth 100000
set_option linter.all false
namespace Go.Proofs.YtdppjkjbghbnjaaGreatDoor
open Go.RowKit
theorem PeerI.fin{S:Setup}{J:Nat -> Nat × Int}{w:Nat}{TR:Nat -> List Inp}{P:PS (List Inp)}{V:List (List Inp)}{m k:Nat}(h:PeerI S J w TR P V m k)(h1:m=V.length)(h2:V.length=P.rows.length):V=P.rows:=by
 have h3:=h.inv.eq;rwa [h1,List.take_length,h2,List.take_length] at h3
theorem Bv{α:Type}{l r:List α}{o n:Nat}(h:(l.drop o).take n=r){k:Nat}(hk:k<n){d:α}:l.getD (o+k) d=r.getD k d:=by
 have h1:((l.drop o).take n)[k]?=r[k]?:=by rw[h]
 rw[aa2,if_pos hk,aa1] at h1;rw[aaE,aaE,h1]
theorem Bw{rs_:List Bx}{ds_:List Dr}{bp pp pl me w:Nat}{S:Setup}{J:Nat -> Nat × Int}{P:PS (List Inp)}{kv:List IvN}{c sn:Nat}{TR:Nat -> List Inp}{V:List (List Inp)}{m:Nat}{G F:HL}(A A2:Option Addr)(n cap n2 WV to:Nat)(xs ys:List Int)(h:PeerR rs_ ds_ bp pp pl me w S J P kv c sn none G)(hI:PeerI S J w TR P V m 0)(Uv:TR=sk S xs)(hT:∀t,RowOk S.players (TR t))(hV:SetV S)(R5:me<pl)(hw:1 <= w /\ w <= 12)(hc:c=0)(DO:∀i,i <= 50 -> (J i).1<5 /\ AtOk F bp (i:Int) (J i))(hE:cz F)(Tj:ArgD F A n xs)(hn:n <= 9223372036854775807)(R3:ArgD F A2 n2 ys)(hn2:n2 <= 9223372036854775807)(hto:1 <= to /\ to <= 9)(Zd:V.length=0):Sp Tryz.prog 24 #[vP pp 0,(Setup.v S),.slice A n cap,.slice A2 n2 WV,vI (to:Int)] (ap [] [G]) F (λ u H'=>∃y:(PS (List Inp) × List IvN × Nat × List (List Inp) × Nat) × HL,H'=ap [] [y.2] /\ (u=.bool true /\ PeerR rs_ ds_ bp pp pl me w S J y.1.1 y.1.2.1 y.1.2.2.1 sn none y.2 /\ PeerI S J w TR y.1.1 y.1.2.2.2.1 y.1.2.2.2.2 24 /\ y.1.2.2.1 <= 50*24 /\ y.1.2.2.2.1=y.1.1.rows /\ y.1.1.rows.length=to)):=by
 have ai3:=hI.lim;have afB:=hV.pl;refine aat Tryz.func24 rfl mn (A:=[]) (Ts:=[G]) rfl λ w0=>?_;refine ae 9 [] λ n1=>aai (Hp:=[]) (Tp:=[]) [] [] (R3.up.use λ F_ h_=>JT A2 n2 WV ys F_ h_ hn2) ?_;rintro _ ⟨S7,A3,c4,T5⟩ ⟨hk6,rfl,Zh⟩;dsimp only at hk6 Zh;refine ae 10 [] λ _=>aan (σ:=Nat × PS (List Inp) × List IvN × Nat × List (List Inp) × Nat × HL) (λ ⟨i_,P_,Yh,c_,V_,m_,G_⟩=>⟨[(0,vP pp 0),(2,.slice A n cap),(4,vI (to:Int)),(6,vP (n1+0) 0),(11,.slice A3 S7 c4),(12,vI (i_:Int))],[((n1+0),.lit (Setup.l S) 31 (0,0))],[G_,T5],i_ <= S7 /\ PeerR rs_ ds_ bp pp pl me w S J P_ Yh c_ sn none G_ /\ PeerI S J w TR P_ V_ m_ i_ /\ c_ <= 50*i_ /\ P_.rows.length <= to /\ V_.length <= to,S7-i_⟩) (0,P,kv,c,V,m,G) [0] [1,0] (⟨aaJ _,h,hI,by omega,by omega,by omega⟩) ?_;rintro⟨i_,P_,Yh,c_,V_,m_,G_⟩ ⟨Wk,Sf,RY,Uu,SD,hv_⟩ UO;have afZ:=RY.lim;have afd:=RY.vlen;have Of:=RY.t0 hV (by omega);refine ae 9 [] λ _=>aal ((i_:Int)<(S7:Int)) 21 (λ TO=>?_) λ TO=>?_
 ·refine ae 8 [] λ _=>?_;have Sz:=Fv R3 (k:=S7) (by omega) (i:=i_) (by omega);obtain⟨ba_,aT,TP,rfl,rfl,amh,af0,aco⟩:=Zh.resolve_left (λ h_=>by have Xa:=congrArg List.length h_.2.2.1;rw[iJ,List.length_nil] at Xa;omega);rw[iJ] at af0 aco;rw[<- Bv aco (by omega)] at Sz;refine wK 1 (x:=(ba_,.rows 3 (aT+c4) (aP fC TP) 54 (0,0)))<|ai 7 [.ix i_,.row 0 (aT+i_) 0] [(aT*3+i_*3)=(aT+i_)*3+0 /\ (aT+i_)<(aT+c4),(i_:Int)=((i_:Nat):Int) /\ i_<S7] λ _=>aal ((TP.getD (aT+i_) fC.dflt).dO=1) 30 (λ S4=>?_) λ S4=>?_
  ·refine ae 1 [] λ _=>aah (kH Sf (au 0))<|ae 5 [] λ _=>aal ((P_.rows.length:Int) >= (to:Int)) 35 (λ Ss=>?_) λ Ss=>?_
   ·refine ai 10 [.nw] [aZ ((i_:Int)+1)] λ _=>jO 0 ?_;refine UO (i_+1,P_,Yh,c_,V_,m_,G_) [0] [1,0] ?_
    try dsimp only
    exact⟨⟨by omega,Sf,RY.more (by omega),by omega,SD,hv_⟩,by omega⟩
   ·refine ae 5 [] λ _=>aak [] []<|aw [] [0,1,2,3,4,5,6] [.ix i_,.row 0 (aT+i_) 0] [(aT*3+i_*3)=(aT+i_)*3+0 /\ (aT+i_)<(aT+c4),(i_:Int)=((i_:Nat):Int) /\ i_<S7]<|RD.em ((TP.getD (aT+i_) fC.dflt).dO>1) 42 (λ S0=>?_) λ S0=>?_
    ·refine aw [] [7,9,10,15,11,12,13] [.ix i_,.row 0 (aT+i_) 1] [((aT*3+i_*3)+1)=(aT+i_)*3+1 /\ (aT+i_)<(aT+c4),(i_:Int)=((i_:Nat):Int) /\ i_<S7]<|aac [] 8 (λ X_=>(se Sf (aG 0) Of))<|aw [] [14,16,17] [.nw] [aZ ((V_.length:Int)+((TP.getD (aT+i_) fC.dflt).bY))]<|aad<|ae 1 [] λ _=>aal ((V_.length:Int)+((TP.getD (aT+i_) fC.dflt).bY)>(to:Int)) 53 (λ TN=>?_) λ TN=>?_
     ·refine ai 10 [.nw] [aZ ((i_:Int)+1)] λ _=>jO 0 ?_;refine UO (i_+1,P_,Yh,c_,V_,m_,G_) [0] [1,0] ?_
      try dsimp only
      exact⟨⟨by omega,Sf,RY.more (by omega),by omega,SD,hv_⟩,by omega⟩
     ·refine ai 13 [.ix i_,.row 0 (aT+i_) 0] [(aT*3+i_*3)=(aT+i_)*3+0 /\ (aT+i_)<(aT+c4),(i_:Int)=((i_:Nat):Int) /\ i_<S7] λ _=>aal ((TP.getD (aT+i_) fC.dflt).dO=4) 60 (λ VK=>?_) λ VK=>?_
      ·refine ae 1 [] λ _=>aah (kH Sf (au 0))<|ae 5 [] λ _=>cL 65 (aa4 Ss)<|ae 3 [] λ _=>aak [7] []<|aw [] [0,1,2,3,4,5,6] (ow 1 16++[.ix i_,.row 0 (aT+i_) 0,.row 0 (aT+i_) 1,.row 0 (aT+i_) 2]) [((aT*3+i_*3)+2)=(aT+i_)*3+2 /\ (aT+i_)<(aT+c4),((aT*3+i_*3)+1)=(aT+i_)*3+1 /\ (aT+i_)<(aT+c4),(aT*3+i_*3)=(aT+i_)*3+0 /\ (aT+i_)<(aT+c4),(i_:Int)=((i_:Nat):Int) /\ i_<S7]<|aae 7 (aaf [] [] [0] (lH A n cap xs (TP.getD (aT+i_) fC.dflt) Sf RY Uv hT hV R5 hw (by omega) Uu (λ i hi=>⟨(DO i hi).1,(DO i hi).2.mono λ x hx=>av hx⟩) (av hE) Tj.up hn Sz) ?_);rintro _ ⟨⟨n16,e17,P18,aeY,c20,V21,m22⟩,Xb⟩ ⟨rfl,Xo,ac5,acB,adh⟩;dsimp only at Xo ac5 acB adh;refine aad<|ai 7 [.nw] [aZ ((i_:Int)+1)] λ _=>jO 0 ?_;refine UO (i_+1,P18,aeY,c20,V21,m22,Xb) [0] [1,0] ?_
       try dsimp only
       unfold L8 qd at adh;exact⟨⟨by omega,Xo,ac5,acB,by omega,by omega⟩,by omega⟩
      ·refine ae 10 [] λ _=>aak [7] []<|aw [] [0,1,2,3,4,5,6] (ow 1 16++[.ix i_,.row 0 (aT+i_) 0,.row 0 (aT+i_) 1,.row 0 (aT+i_) 2]) [((aT*3+i_*3)+2)=(aT+i_)*3+2 /\ (aT+i_)<(aT+c4),((aT*3+i_*3)+1)=(aT+i_)*3+1 /\ (aT+i_)<(aT+c4),(aT*3+i_*3)=(aT+i_)*3+0 /\ (aT+i_)<(aT+c4),(i_:Int)=((i_:Nat):Int) /\ i_<S7]<|aae 7 (aaf [] [] [0] (lH A n cap xs (TP.getD (aT+i_) fC.dflt) Sf RY Uv hT hV R5 hw (by omega) Uu (λ i hi=>⟨(DO i hi).1,(DO i hi).2.mono λ x hx=>av hx⟩) (av hE) Tj.up hn Sz) ?_);rintro _ ⟨⟨n28,e29,P30,aeW,c32,V33,m34⟩,YS⟩ ⟨rfl,V5,ac3,acz,adg⟩;dsimp only at V5 ac3 acz adg;refine aad<|ai 7 [.nw] [aZ ((i_:Int)+1)] λ _=>jO 0 ?_;refine UO (i_+1,P30,aeW,c32,V33,m34,YS) [0] [1,0] ?_
       try dsimp only
       unfold L8 qd at adg;exact⟨⟨by omega,V5,ac3,acz,by omega,by omega⟩,by omega⟩
    ·refine ag [] [7,9,10,15,8,11,12,13,14,16,17] []<|aad<|ai 14 [.ix i_,.row 0 (aT+i_) 0] [(aT*3+i_*3)=(aT+i_)*3+0 /\ (aT+i_)<(aT+c4),(i_:Int)=((i_:Nat):Int) /\ i_<S7] λ _=>aal ((TP.getD (aT+i_) fC.dflt).dO=4) 60 (λ h40=>?_) λ h40=>?_
     ·refine ae 1 [] λ _=>aah (kH Sf (au 0))<|ae 5 [] λ _=>cL 65 (aa4 Ss)<|ae 3 [] λ _=>aak [7] []<|aw [] [0,1,2,3,4,5,6] (ow 1 16++[.ix i_,.row 0 (aT+i_) 0,.row 0 (aT+i_) 1,.row 0 (aT+i_) 2]) [((aT*3+i_*3)+2)=(aT+i_)*3+2 /\ (aT+i_)<(aT+c4),((aT*3+i_*3)+1)=(aT+i_)*3+1 /\ (aT+i_)<(aT+c4),(aT*3+i_*3)=(aT+i_)*3+0 /\ (aT+i_)<(aT+c4),(i_:Int)=((i_:Nat):Int) /\ i_<S7]<|aae 7 (aaf [] [] [0] (lH A n cap xs (TP.getD (aT+i_) fC.dflt) Sf RY Uv hT hV R5 hw (by omega) Uu (λ i hi=>⟨(DO i hi).1,(DO i hi).2.mono λ x hx=>av hx⟩) (av hE) Tj.up hn Sz) ?_);rintro _ ⟨⟨n41,e42,P43,aeV,c45,V46,m47⟩,T48⟩ ⟨rfl,abG,ac2,acy,adf⟩;dsimp only at abG ac2 acy adf;refine aad<|ai 7 [.nw] [aZ ((i_:Int)+1)] λ _=>jO 0 ?_;refine UO (i_+1,P43,aeV,c45,V46,m47,T48) [0] [1,0] ?_
      try dsimp only
      unfold L8 qd at adf;exact⟨⟨by omega,abG,ac2,acy,by omega,by omega⟩,by omega⟩
     ·refine ae 10 [] λ _=>aak [7] []<|aw [] [0,1,2,3,4,5,6] (ow 1 16++[.ix i_,.row 0 (aT+i_) 0,.row 0 (aT+i_) 1,.row 0 (aT+i_) 2]) [((aT*3+i_*3)+2)=(aT+i_)*3+2 /\ (aT+i_)<(aT+c4),((aT*3+i_*3)+1)=(aT+i_)*3+1 /\ (aT+i_)<(aT+c4),(aT*3+i_*3)=(aT+i_)*3+0 /\ (aT+i_)<(aT+c4),(i_:Int)=((i_:Nat):Int) /\ i_<S7]<|aae 7 (aaf [] [] [0] (lH A n cap xs (TP.getD (aT+i_) fC.dflt) Sf RY Uv hT hV R5 hw (by omega) Uu (λ i hi=>⟨(DO i hi).1,(DO i hi).2.mono λ x hx=>av hx⟩) (av hE) Tj.up hn Sz) ?_);rintro _ ⟨⟨n53,e54,P55,aeU,c57,V58,m59⟩,T60⟩ ⟨rfl,abF,ac1,acw,ade⟩;dsimp only at abF ac1 acw ade;refine aad<|ai 7 [.nw] [aZ ((i_:Int)+1)] λ _=>jO 0 ?_;refine UO (i_+1,P55,aeU,c57,V58,m59,T60) [0] [1,0] ?_
      try dsimp only
      unfold L8 qd at ade;exact⟨⟨by omega,abF,ac1,acw,by omega,by omega⟩,by omega⟩
  ·refine ae 12 [] λ _=>aak [] []<|aw [] [0,1,2,3,4,5,6] [.ix i_,.row 0 (aT+i_) 0] [(aT*3+i_*3)=(aT+i_)*3+0 /\ (aT+i_)<(aT+c4),(i_:Int)=((i_:Nat):Int) /\ i_<S7]<|RD.em ((TP.getD (aT+i_) fC.dflt).dO>1) 42 (λ h65=>?_) λ h65=>?_
   ·refine aw [] [7,9,10,15,11,12,13] [.ix i_,.row 0 (aT+i_) 1] [((aT*3+i_*3)+1)=(aT+i_)*3+1 /\ (aT+i_)<(aT+c4),(i_:Int)=((i_:Nat):Int) /\ i_<S7]<|aac [] 8 (λ X_=>(se Sf (aG 0) Of))<|aw [] [14,16,17] [.nw] [aZ ((V_.length:Int)+((TP.getD (aT+i_) fC.dflt).bY))]<|aad<|ae 1 [] λ _=>aal ((V_.length:Int)+((TP.getD (aT+i_) fC.dflt).bY)>(to:Int)) 53 (λ h66=>?_) λ h66=>?_
    ·refine ai 10 [.nw] [aZ ((i_:Int)+1)] λ _=>jO 0 ?_;refine UO (i_+1,P_,Yh,c_,V_,m_,G_) [0] [1,0] ?_
     try dsimp only
     exact⟨⟨by omega,Sf,RY.more (by omega),by omega,SD,hv_⟩,by omega⟩
    ·refine ai 13 [.ix i_,.row 0 (aT+i_) 0] [(aT*3+i_*3)=(aT+i_)*3+0 /\ (aT+i_)<(aT+c4),(i_:Int)=((i_:Nat):Int) /\ i_<S7] λ _=>aal ((TP.getD (aT+i_) fC.dflt).dO=4) 60 (λ h67=>?_) λ h67=>?_
     ·refine ae 1 [] λ _=>aah (kH Sf (au 0))<|ae 5 [] λ _=>aal ((P_.rows.length:Int) >= (to:Int)) 65 (λ h68=>?_) λ h68=>?_
      ·refine ai 10 [.nw] [aZ ((i_:Int)+1)] λ _=>jO 0 ?_;refine UO (i_+1,P_,Yh,c_,V_,m_,G_) [0] [1,0] ?_
       try dsimp only
       exact⟨⟨by omega,Sf,RY.more (by omega),by omega,SD,hv_⟩,by omega⟩
      ·refine ae 3 [] λ _=>aak [7] []<|aw [] [0,1,2,3,4,5,6] (ow 1 16++[.ix i_,.row 0 (aT+i_) 0,.row 0 (aT+i_) 1,.row 0 (aT+i_) 2]) [((aT*3+i_*3)+2)=(aT+i_)*3+2 /\ (aT+i_)<(aT+c4),((aT*3+i_*3)+1)=(aT+i_)*3+1 /\ (aT+i_)<(aT+c4),(aT*3+i_*3)=(aT+i_)*3+0 /\ (aT+i_)<(aT+c4),(i_:Int)=((i_:Nat):Int) /\ i_<S7]<|aae 7 (aaf [] [] [0] (lH A n cap xs (TP.getD (aT+i_) fC.dflt) Sf RY Uv hT hV R5 hw (by omega) Uu (λ i hi=>⟨(DO i hi).1,(DO i hi).2.mono λ x hx=>av hx⟩) (av hE) Tj.up hn Sz) ?_);rintro _ ⟨⟨n69,e70,P71,aeT,c73,V74,m75⟩,T76⟩ ⟨rfl,abE,ac0,acv,adb⟩;dsimp only at abE ac0 acv adb;refine aad<|ai 7 [.nw] [aZ ((i_:Int)+1)] λ _=>jO 0 ?_;refine UO (i_+1,P71,aeT,c73,V74,m75,T76) [0] [1,0] ?_
       try dsimp only
       unfold L8 qd at adb;exact⟨⟨by omega,abE,ac0,acv,by omega,by omega⟩,by omega⟩
     ·refine ae 10 [] λ _=>aak [7] []<|aw [] [0,1,2,3,4,5,6] (ow 1 16++[.ix i_,.row 0 (aT+i_) 0,.row 0 (aT+i_) 1,.row 0 (aT+i_) 2]) [((aT*3+i_*3)+2)=(aT+i_)*3+2 /\ (aT+i_)<(aT+c4),((aT*3+i_*3)+1)=(aT+i_)*3+1 /\ (aT+i_)<(aT+c4),(aT*3+i_*3)=(aT+i_)*3+0 /\ (aT+i_)<(aT+c4),(i_:Int)=((i_:Nat):Int) /\ i_<S7]<|aae 7 (aaf [] [] [0] (lH A n cap xs (TP.getD (aT+i_) fC.dflt) Sf RY Uv hT hV R5 hw (by omega) Uu (λ i hi=>⟨(DO i hi).1,(DO i hi).2.mono λ x hx=>av hx⟩) (av hE) Tj.up hn Sz) ?_);rintro _ ⟨⟨n81,e82,P83,aeS,c85,V86,m87⟩,T88⟩ ⟨rfl,abD,acZ,acu,ada⟩;dsimp only at abD acZ acu ada;refine aad<|ai 7 [.nw] [aZ ((i_:Int)+1)] λ _=>jO 0 ?_;refine UO (i_+1,P83,aeS,c85,V86,m87,T88) [0] [1,0] ?_
      try dsimp only
      unfold L8 qd at ada;exact⟨⟨by omega,abD,acZ,acu,by omega,by omega⟩,by omega⟩
   ·refine ag [] [7,9,10,15,8,11,12,13,14,16,17] []<|aad<|ai 14 [.ix i_,.row 0 (aT+i_) 0] [(aT*3+i_*3)=(aT+i_)*3+0 /\ (aT+i_)<(aT+c4),(i_:Int)=((i_:Nat):Int) /\ i_<S7] λ _=>aal ((TP.getD (aT+i_) fC.dflt).dO=4) 60 (λ h93=>?_) λ h93=>?_
    ·refine ae 1 [] λ _=>aah (kH Sf (au 0))<|ae 5 [] λ _=>aal ((P_.rows.length:Int) >= (to:Int)) 65 (λ h94=>?_) λ h94=>?_
     ·refine ai 10 [.nw] [aZ ((i_:Int)+1)] λ _=>jO 0 ?_;refine UO (i_+1,P_,Yh,c_,V_,m_,G_) [0] [1,0] ?_
      try dsimp only
      exact⟨⟨by omega,Sf,RY.more (by omega),by omega,SD,hv_⟩,by omega⟩
     ·refine ae 3 [] λ _=>aak [7] []<|aw [] [0,1,2,3,4,5,6] (ow 1 16++[.ix i_,.row 0 (aT+i_) 0,.row 0 (aT+i_) 1,.row 0 (aT+i_) 2]) [((aT*3+i_*3)+2)=(aT+i_)*3+2 /\ (aT+i_)<(aT+c4),((aT*3+i_*3)+1)=(aT+i_)*3+1 /\ (aT+i_)<(aT+c4),(aT*3+i_*3)=(aT+i_)*3+0 /\ (aT+i_)<(aT+c4),(i_:Int)=((i_:Nat):Int) /\ i_<S7]<|aae 7 (aaf [] [] [0] (lH A n cap xs (TP.getD (aT+i_) fC.dflt) Sf RY Uv hT hV R5 hw (by omega) Uu (λ i hi=>⟨(DO i hi).1,(DO i hi).2.mono λ x hx=>av hx⟩) (av hE) Tj.up hn Sz) ?_);rintro _ ⟨⟨n95,e96,P97,aeR,c99,ahO,aeO⟩,ahY⟩ ⟨rfl,Yt,YH,YE,YK⟩;dsimp only at Yt YH YE YK;refine aad<|ai 7 [.nw] [aZ ((i_:Int)+1)] λ _=>jO 0 ?_;refine UO (i_+1,P97,aeR,c99,ahO,aeO,ahY) [0] [1,0] ?_
      try dsimp only
      unfold L8 qd at YK;exact⟨⟨by omega,Yt,YH,YE,by omega,by omega⟩,by omega⟩
    ·refine ae 10 [] λ _=>aak [7] []<|aw [] [0,1,2,3,4,5,6] (ow 1 16++[.ix i_,.row 0 (aT+i_) 0,.row 0 (aT+i_) 1,.row 0 (aT+i_) 2]) [((aT*3+i_*3)+2)=(aT+i_)*3+2 /\ (aT+i_)<(aT+c4),((aT*3+i_*3)+1)=(aT+i_)*3+1 /\ (aT+i_)<(aT+c4),(aT*3+i_*3)=(aT+i_)*3+0 /\ (aT+i_)<(aT+c4),(i_:Int)=((i_:Nat):Int) /\ i_<S7]<|aae 7 (aaf [] [] [0] (lH A n cap xs (TP.getD (aT+i_) fC.dflt) Sf RY Uv hT hV R5 hw (by omega) Uu (λ i hi=>⟨(DO i hi).1,(DO i hi).2.mono λ x hx=>av hx⟩) (av hE) Tj.up hn Sz) ?_);rintro _ ⟨⟨n107,anE,ahZ,abf,ahK,ahN,aeN⟩,ahX⟩ ⟨rfl,Ys,YG,YD,YJ⟩;dsimp only at Ys YG YD YJ;refine aad<|ai 7 [.nw] [aZ ((i_:Int)+1)] λ _=>jO 0 ?_;refine UO (i_+1,ahZ,abf,ahK,ahN,aeN,ahX) [0] [1,0] ?_
     try dsimp only
     unfold L8 qd at YJ;exact⟨⟨by omega,Ys,YG,YD,by omega,by omega⟩,by omega⟩
 ·refine ae 8 [] λ _=>aan (σ:=PS (List Inp) × List IvN × HL) (λ ⟨Q_,kw_,G2_⟩=>⟨[(0,vP pp 0),(2,.slice A n cap),(4,vI (to:Int)),(6,vP (n1+0) 0)],[((n1+0),.lit (Setup.l S) 31 (0,0))],[G2_,T5],PeerR rs_ ds_ bp pp pl me w S J Q_ kw_ c_ sn none G2_ /\ PeerI S J w TR Q_ V_ m_ (14+Q_.rows.length) /\ c_ <= 50*14 /\ Q_.rows.length <= to,to-Q_.rows.length⟩) (P_,Yh,G_) [0] [0,1] (⟨Sf,RY.more (by omega),by omega,SD⟩) ?_;rintro⟨Q_,kw_,G2_⟩ ⟨X1,WO,XJ,alA⟩ abb;have ai2:=WO.lim;have aiu:=WO.vlen;have anm:=WO.t0 hV (by omega);refine ae 4 [] λ _=>aah (kH X1 (au 0))<|ae 4 [] λ _=>aal ((Q_.rows.length:Int)<(to:Int)) 77 (λ ahq=>?_) λ ahq=>?_
  ·refine ae 7 [] λ _=>aah (kH X1 (au 0))<|ae 10 (ow 0 16) λ _=>aai (Hp:=[]) (Tp:=[]) [] [] (Tj.up.use λ F_ h_=>mh S A n cap xs (Q_.rows.length:Int) F_ h_ hn (by omega) (by omega)) ?_;rintro _ ⟨aos,ahI,an7⟩ ⟨rfl,Yr,abm⟩;dsimp only at Yr abm;refine aai [] [1] (Br (cc:=ahI) X1 WO hT hV (by omega) (by omega) (Yr.rowN (au 0) (ez _ _ _ _)) (by rw[Uv]) rfl) ?_;rintro _ ahW ⟨rfl,abL,ac7⟩;refine ae 6 [] λ _=>?_;refine abb ((fI Q_ (TR Q_.rows.length)),(my kw_ (Q_.rows.length:Int)),ahW) [0] [0,2] ?_
   try dsimp only
   have ZR:(fI Q_ (TR Q_.rows.length)).rows.length=Q_.rows.length+1:=by show (Q_.rows++[_]).length=_;simp
   exact⟨⟨abL,by rw[ZR];exact ac7,by omega,by rw[ZR];omega⟩,by rw[ZR];omega⟩
  ·refine ae 10 [] λ _=>aai [] [0] (MO (tt:=(to:Int)) X1 WO hT hV R5 hw (by omega) (by omega) (λ i hi=>⟨(DO i hi).1,(DO i hi).2.mono λ x hx=>av hx⟩) (av hE)) ?_;rintro _ ⟨⟨n130,ahC,adL,abe,adD,ahM,aeM⟩,adK⟩ ⟨rfl,Yq,WQ,acD,YP⟩;dsimp only at Yq WQ acD YP;unfold qd at YP;obtain rfl:ahC=0:=by omega
   refine ae 14 [] λ _=>aap [] [] [0] (v:=.bool true) (H':=(ap [] [adK])) ?_;exact⟨((adL,abe,adD,ahM,aeM),adK),rfl,rfl,Yq,WQ.more (by omega),by show adD <= _;omega,WQ.fin (by omega) (by omega),by show adL.rows.length=to;omega⟩
theorem Bz{rs_:List Bx}{ds_:List Dr}{bp pp pl me w:Nat}{S:Setup}{J:Nat -> Nat × Int}{P:PS (List Inp)}{kv:List IvN}{c sn:Nat}{TR:Nat -> List Inp}{V:List (List Inp)}{m:Nat}{G F:HL}(A A2:Option Addr)(n cap n2 WV to:Nat)(xs ys:List Int)(h:PeerR rs_ ds_ bp pp pl me w S J P kv c sn none G)(hI:PeerI S J w TR P V m 0)(Uv:TR=sk S xs)(hT:∀t,RowOk S.players (TR t))(hV:SetV S)(R5:me<pl)(hw:1 <= w /\ w <= 12)(hc:c=0)(DO:∀i,i <= 50 -> (J i).1<5 /\ AtOk F bp (i:Int) (J i))(hE:cz F)(Tj:ArgD F A n xs)(hn:n <= 9223372036854775807)(R3:ArgD F A2 n2 ys)(hn2:n2 <= 9223372036854775807)(hto:1 <= to /\ to <= 9)(Zd:V.length=0){ti:Int}(hti:ti=(to:Int)):Sp Tryz.prog 24 #[vP pp 0,Setup.v S,.slice A n cap,.slice A2 n2 WV,vI ti] (ap [] [G]) F (λ u H'=>∃y:(PS (List Inp) × List IvN × Nat × List (List Inp) × Nat) × HL,H'=ap [] [y.2] /\ (u=.bool true /\ PeerR rs_ ds_ bp pp pl me w S J y.1.1 y.1.2.1 y.1.2.2.1 sn none y.2 /\ PeerI S J w TR y.1.1 y.1.2.2.2.1 y.1.2.2.2.2 24 /\ y.1.2.2.1 <= 50*24 /\ y.1.2.2.2.1=y.1.1.rows /\ y.1.1.rows.length=to)):=by subst hti;exact Bw A A2 n cap n2 WV to xs ys h hI Uv hT hV R5 hw hc DO hE Tj hn R3 hn2 hto Zd
theorem Fw(mb w:Nat)(F:HL)(hw:1 <= w /\ w <= 13):Sp Tryz.prog 63 #[vP mb 0,vI (w:Int)] [] F (λ u H'=>∃b:Nat,H'=ap [(b,.lit [vP mb 0,vI (w:Int),.slice none 0 0] 169 (0,0))] [] /\ u=vP b 0):=by
 refine aat Tryz.func63 rfl mn (A:=[]) (Ts:=[]) rfl λ w0=>?_;refine ae 11 [] λ _=>aK 8 (congrArg (λ v_=>(vI v_:Value)) (show (if (if 13<(w:Int) then 13 else (w:Int))>1 then (if 13<(w:Int) then 13 else (w:Int)) else 1)=(w:Int) by (repeat' split) <;> omega))<|ae 5 [] λ n1=>aap [] [0] [] (v:=vP (n1+0) 0) (H':=(ap [((n1+0),.lit [vP mb 0,vI (w:Int),.slice none 0 0] 169 (0,0))] [])) ?_;exact⟨_,rfl,rfl⟩
theorem uF(mb w:Nat)(F:HL)(hw:1 <= w /\ w <= 13):Sp Tryz.prog 63 #[vP mb 0,vI (w:Int)] (ap [] []) F (λ u H'=>∃x:Nat × HL,H'=ap [] [x.2] /\ (u=vP x.1 0 /\ RingH x.1 mb w 0 [] x.2)):=(Fw mb w F hw).mono λ u H' h=>by
 obtain⟨b,rfl,hse_⟩:=h;refine⟨(b,ap [(b,.lit [vP mb 0,vI (w:Int),.slice none 0 0] 169 (0,0))] [[]]),by simp[ap],hse_,?_⟩;exact RingH.mk (n:=0) (SlX.nil _ _) rfl (λ _=>⟨rfl,rfl,rfl⟩)
theorem zl(S:Setup)(rs:List Bx)(ds:List Dr)(bp pl me w:Nat)(J:Nat -> Nat × Int)(F:HL)(hS:SetCl F S)(hM:MapIn F S rs ds)(h1:1 <= S.nb)(Si:S.rn <= 1000000)(Vj:S.dn <= 1000000)(IN:(sizeOf S).toNat <= 1000000)(hv:lu S rs ds=0)(hpl:S.players=(pl:Int))(R5:me<pl)(hw:1 <= w /\ w <= 12):Sp Tryz.prog 37 #[Setup.v S,vP bp 0,vI (me:Int),vI (w:Int)] (ap [] []) F (λ u H'=>∃x:Nat × HL,H'=ap [] [x.2] /\ (u=.tuple #[vP x.1 0,vI 0] /\ PeerR rs ds bp x.1 pl me w S J (⟨⟨bm S S.nb,[],0⟩,0,[],[],0,[],[],0⟩:PS (List Inp)) ([]) 0 0 none x.2)):=by
 have ama:=jT S S.nb;refine aat Tryz.func37 rfl mn (A:=[]) (Ts:=[]) rfl λ w0=>?_;refine ae 11 (ow 0 16) λ n1=>aai (Hp:=[]) (Tp:=[]) [] [] (rq S rs ds bp _ hS.up hM.up h1 Si Vj IN hv 99020000 (by decide)) ?_;rintro _ ⟨g2,S3,T4⟩ ⟨rfl,YB,hG6⟩;dsimp only at YB hG6;obtain⟨abc,Y6⟩:=hG6.x;refine ae 23 [] λ _=>aal ((me:Int)<0) 24 (λ h7=>?_) λ h7=>?_
 ·(exfalso;omega)
 ·refine ae 7 [.own 0] λ _=>aal ((me:Int) >= S.players) 29 (λ h8=>?_) λ h8=>?_
  ·(exfalso;omega)
  ·refine ae 9 [] λ _=>aal ((w:Int)<1) 32 (λ h9=>?_) λ h9=>?_
   ·(exfalso;omega)
   ·refine ae 5 [] λ _=>aal ((w:Int)>12) 35 (λ TO=>?_) λ TO=>?_
    ·(exfalso;omega)
    ·refine ae 7 (ow 0 16) λ _=>aai (Hp:=[]) (Tp:=[]) [] [] (rq S rs ds bp _ hS.up hM.up h1 Si Vj IN hv 99020000 (by decide)) ?_;rintro _ ⟨g11,S12,Tb⟩ ⟨rfl,ZM,ac9⟩;dsimp only at ZM ac9;obtain⟨akR,abq⟩:=ac9.x;refine ae 18 [] λ _=>aak [] []<|ag [] [0,2,3,4,5,7,10,1] [.own 0]<|aac [] 6 (λ X_=>(JA Y6 (aG 1)))<|gh 8 9 ?_ ?_
     ·refine aaf [] (Hp:=[]) (Tp:=[]) [] [] (uF abc w _ (by omega)) ?_;rintro _ ⟨b16,SC⟩ ⟨rfl,ab5⟩;dsimp only at ab5;refine aae 9 (aag [] [] λ n19=>?_);refine fV 46 (congrArg (λ v_=>(vI v_:Value)) hpl)<|ag [] [11] []<|aae 12 (aag [] [] λ Vp=>?_);refine ag [] [13,14] []<|aad<|ae 1 [] λ _=>aap [] [0,1] [2,0,1] (v:=.tuple #[vP (Vp+0) 0,vI 0]) (H':=(ap [((Vp+0),.lit [vI (pl:Int),vI (me:Int),vI (w:Int),vP g2 0,vP b16 0,.map (some (n19+0)),.slice none 0 0,vI 0,.slice none 0 0,.slice none 0 0,vI 0,vP g11 0] 102 (0,0)),((n19+0),.obj (bE [] 0))] [T4,SC,Tb])) ?_;exact⟨((Vp+0),ap [((Vp+0),.lit [vI (pl:Int),vI (me:Int),vI (w:Int),vP g2 0,vP b16 0,.map (some (n19+0)),.slice none 0 0,vI 0,.slice none 0 0,.slice none 0 0,vI 0,vP g11 0] 102 (0,0)),((n19+0),.obj (bE [] 0))] [T4,SC,[],[],[],[],[],Tb]),by simp[ap],rfl,PeerR.mk (P:=(⟨⟨bm S S.nb,[],0⟩,0,[],[],0,[],[],0⟩:PS (List Inp))) (rl:=[]) (ul:=[]) (el:=[]) rfl rfl rfl rfl rfl YB (Y6.weak (aaJ _)) ⟨Int.le_refl 0,Int.le_refl 0⟩ ab5 LocIn.nil (aas _ _) rfl RwsT.nil (SlX.nil _ _) rfl RwsT.nil (aas _ _) rfl EfsT.nil ZM abq rfl (aaI _) ⟨Int.le_refl 0,Int.le_refl 0⟩ hpl (λ _ _ h_=>by cases h_)⟩
     ·refine aag [] [] λ RK=>aae 8 (aaf [] (Hp:=[]) (Tp:=[]) [] [] (uF abc w _ (by omega)) ?_);rintro _ ⟨b22,Xb⟩ ⟨rfl,ab4⟩;dsimp only at ab4;refine fV 46 (congrArg (λ v_=>(vI v_:Value)) hpl)<|ag [] [11] []<|aae 12 (aag [] [] λ VT=>?_);refine ag [] [13,14] []<|aad<|ae 1 [] λ _=>aap [] [0,1] [2,0,1] (v:=.tuple #[vP (VT+0) 0,vI 0]) (H':=(ap [((VT+0),.lit [vI (pl:Int),vI (me:Int),vI (w:Int),vP g2 0,vP b22 0,.map (some (RK+0)),.slice none 0 0,vI 0,.slice none 0 0,.slice none 0 0,vI 0,vP g11 0] 102 (0,0)),((RK+0),.obj (bE [] 0))] [T4,Xb,Tb])) ?_;exact⟨((VT+0),ap [((VT+0),.lit [vI (pl:Int),vI (me:Int),vI (w:Int),vP g2 0,vP b22 0,.map (some (RK+0)),.slice none 0 0,vI 0,.slice none 0 0,.slice none 0 0,vI 0,vP g11 0] 102 (0,0)),((RK+0),.obj (bE [] 0))] [T4,Xb,[],[],[],[],[],Tb]),by simp[ap],rfl,PeerR.mk (P:=(⟨⟨bm S S.nb,[],0⟩,0,[],[],0,[],[],0⟩:PS (List Inp))) (rl:=[]) (ul:=[]) (el:=[]) rfl rfl rfl rfl rfl YB (Y6.weak (aaJ _)) ⟨Int.le_refl 0,Int.le_refl 0⟩ ab4 LocIn.nil (aas _ _) rfl RwsT.nil (SlX.nil _ _) rfl RwsT.nil (aas _ _) rfl EfsT.nil ZM abq rfl (aaI _) ⟨Int.le_refl 0,Int.le_refl 0⟩ hpl (λ _ _ h_=>by cases h_)⟩
theorem zm(S:Setup)(rs:List Bx)(ds:List Dr)(bp pl me w:Nat)(J:Nat -> Nat × Int)(F:HL)(hS:SetCl F S)(hM:MapIn F S rs ds)(h1:1 <= S.nb)(Si:S.rn <= 1000000)(Vj:S.dn <= 1000000)(IN:(sizeOf S).toNat <= 1000000)(hv:lu S rs ds=0)(hpl:S.players=(pl:Int))(R5:me<pl)(hw:1 <= w /\ w <= 12):Sp Tryz.prog 12 #[(Setup.v S),vP bp 0,vI (me:Int),vI (w:Int)] [] F (λ u H'=>∃x:Nat × HL,H'=ap [] [x.2] /\ (u=vP x.1 0 /\ PeerR rs ds bp x.1 pl me w S J (⟨⟨bm S S.nb,[],0⟩,0,[],[],0,[],[],0⟩:PS (List Inp)) ([]) 0 0 none x.2)):=by
 refine aat Tryz.func12 rfl mn (A:=[]) (Ts:=[]) rfl λ w0=>?_;refine ae 22 (ow 0 16) λ n1=>aai (Hp:=[]) (Tp:=[]) [] [] (zl S rs ds bp pl me w J _ hS.up hM.up h1 Si Vj IN hv hpl R5 hw) ?_;rintro _ ⟨p2,T3⟩ ⟨rfl,hr4⟩;dsimp only at hr4;refine ae 23 [] λ _=>aap [] [] [0] (v:=vP p2 0) (H':=(ap [] [T3])) ?_;exact⟨(p2,T3),rfl,rfl,hr4⟩
theorem lI(S:Setup)(rs:List Bx)(ds:List Dr)(bp pl me w:Nat)(J:Nat -> Nat × Int)(F:HL)(hS:SetCl F S)(hM:MapIn F S rs ds)(h1:1 <= S.nb)(Si:S.rn <= 1000000)(Vj:S.dn <= 1000000)(IN:(sizeOf S).toNat <= 1000000)(hv:lu S rs ds=0)(hpl:S.players=(pl:Int))(R5:me<pl)(hw:1 <= w /\ w <= 12){mi wi:Int}(hmi:mi=(me:Int))(hwi:wi=(w:Int)):Sp Tryz.prog 12 #[Setup.v S,vP bp 0,vI mi,vI wi] (ap [] []) F (λ u H'=>∃x:Nat × HL,H'=ap [] [x.2] /\ (u=vP x.1 0 /\ PeerR rs ds bp x.1 pl me w S J (⟨⟨bm S S.nb,[],0⟩,0,[],[],0,[],[],0⟩:PS (List Inp)) ([]) 0 0 none x.2)):=by
 subst hmi;subst hwi;exact zm S rs ds bp pl me w J F hS hM h1 Si Vj IN hv hpl R5 hw
def cC(b:Nat):Setup:=⟨1,b,0,1,1,1,[⟨⟨5,[],none,0⟩,⟨0,0,0,0,0⟩,0,0⟩],⟨0,0,0,0⟩,none,0,0,none,0,0,0,⟨0,0⟩,0,0,0,1,0⟩
theorem zn(b:Nat):lu (cC b) [] []=0:=by kernel_rfl
theorem BA(b:Nat):SetV (cC b):=⟨⟨show (1:Int) <= 1 by decide,show (1:Int) <= 3 by decide⟩,⟨show 1 <= 1 by decide,show 1 <= 5 by decide⟩,⟨show (1:Int) <= 1 by decide,show (1:Int) <= 3 by decide⟩,⟨show (0:Int) <= 0 by decide,show (0:Int) <= 60 by decide⟩⟩
theorem C3{b:Nat}{F:HL}(hb:(b,.rows 9 1 (mm (cC b).bods) 90 (0,0))∈F):SetCl F (cC b):=⟨⟨⟨show (0:Int) <= 1 by decide,show (1:Int) <= 1000000 by decide⟩,show 1 <= 1000000 by decide⟩,hb,show 0+1 <= 1 by decide,λ k hk=>by
 obtain rfl:k=0:=by have:k<1:=hk;omega
 exact⟨⟨.zero _,aaJ _⟩,.inl rfl⟩⟩
theorem zo(b:Nat)(F:HL):MapIn F (cC b) [] []:=⟨.zero _,.zero _⟩
theorem sm(n m:Int)(F:HL)(hn:lq n)(hm:lq m)(hE:pP F):Sp Tryz.prog 13 #[vI n,vI m] (ap [] []) F (λ u H'=>∃x:Nat × HL,H'=ap [] [x.2] /\ (u=vP x.1 0 /\ Book2 3 (aq n 5).toNat (aq m 5).toNat x.1 x.2)):=by
 refine aat Tryz.func13 rfl mn (A:=[]) (Ts:=[]) rfl λ w0=>?_;refine ae 8 [] λ _=>aah (rY n _ hn) ?_;have hA1:=bK (n:=n) hn 5 (by decide);refine aai (Hp:=[]) (Tp:=[]) [] [] (IV (aq n 5).toNat _ (by omega) (av hE)) ?_;rintro _ ⟨b2,T3⟩ ⟨rfl,WR⟩;dsimp only at WR;refine ae 26 [] λ _=>aah (rY m _ hm) ?_;have hA5:=bK (n:=m) hm 5 (by decide);refine aai [] [0] (LY WR 3 (by decide) (aq m 5).toNat _ (by omega) (av hE)) ?_;rintro _ T6 ⟨rfl,hB7⟩;refine ae 12 [] λ _=>aap [] [] [0] (v:=vP b2 0) (H':=(ap [] [T6])) ?_;exact⟨(b2,T6),rfl,rfl,hB7⟩
abbrev v3:List (List Inp):=[[dI],[dI],[dI]]
theorem MR:∀r∈v3,RowOk 1 r:=λ r hr=>by
 have e:r=[dI]:=by simpa using hr
 subst e;exact lF rfl λ x hx=>by rw[List.mem_singleton.1 hx];exact uz
section
variable {b bp pp:Nat} {J:Nat -> Nat × Int} {G F:HL}
theorem JU(h:PeerR [] [] bp pp 1 0 3 (cC b) J (⟨⟨bm (cC b) (cC b).nb,[],0⟩,0,[],[],0,[],[],0⟩:PS (List Inp)) ([]) 0 0 none G)(DO:∀i,i <= 50 -> (J i).1<5 /\ AtOk F bp (i:Int) (J i))(hE:cz F):Sp Tryz.prog 17 #[vP pp 0,vI 3] (ap [] [G]) F (λ u H'=>∃y:PS (List Inp) × HL,H'=ap [] [y.2] /\ (u=.tuple #[vI 3,vI 0] /\ PeerR [] [] bp pp 1 0 3 (cC b) J y.1 ([]) (0+(3-eD (⟨⟨bm (cC b) (cC b).nb,[],0⟩,0,[],[],0,[],[],0⟩:PS (List Inp)) ([]:List (List Inp)).length)) 0 none y.2 /\ PInv (gP (cC b) J) (bm (cC b) (cC b).nb) 3 y.1 v3 0 /\ y.1.rows=[] /\ y.1.rb=0)):=by
 have hI:PInv (gP (cC b) J) (bm (cC b) (cC b).nb) 3 (⟨⟨bm (cC b) (cC b).nb,[],0⟩,0,[],[],0,[],[],0⟩:PS (List Inp)) [] 0:=r8 (⟨bm (cC b) (cC b).nb,[],0⟩) 0;have Xr:∀t,t<(([]:List (List Inp)).length) -> ([]:List (List Inp))[t]?=some (f7 1 0 [] (gV []) t):=λ t ht=>absurd ht (Nat.not_lt_zero _);obtain⟨a1,a2,a3,a4⟩:=hI.adv (by decide) (T:=3) (by decide) (aaI 3) (f7 1 0 [] (gV [])) Xr;refine(wj h hI (BA b) (λ r hr=>by cases hr) (λ r hr=>by cases hr) (by decide) (by decide) (show 0<50 by decide) (by decide) (by decide) (show 0 <= 1000 by decide) DO hE 3 (by decide) (aaI 3) (by decide)).mono λ u H' q=>?_;obtain⟨x,rfl,h1,h2⟩:=q;exact⟨(_,x),rfl,h1,h2,a1,a3,a4⟩
theorem OH{P:PS (List Inp)}(h:PeerR [] [] bp pp 1 0 3 (cC b) J P ([]) 3 0 none G)(hI:PInv (gP (cC b) J) (bm (cC b) (cC b).nb) 3 P v3 0)(hr:P.rows=[])(V9:P.rb=0)(DO:∀i,i <= 50 -> (J i).1<5 /\ AtOk F bp (i:Int) (J i))(hE:cz F):Sp Tryz.prog 17 #[vP pp 0,vI 4] (ap [] [G]) F (λ u H'=>∃x,H'=ap [] [x] /\ (u=.tuple #[vI 0,vI 18] /\ PeerR [] [] bp pp 1 0 3 (cC b) J P ([]) 3 0 none x)) :=
 zh h hI (BA b) MR (by rw[hr];exact λ r hr=>by cases hr) (by decide) (by decide) (by rw[hr];decide) (by decide) (by decide) (by rw[V9];decide) DO hE 4 (by rw[hr];exact .inr (by decide))
theorem JV{P:PS (List Inp)}(h:PeerR [] [] bp pp 1 0 3 (cC b) J P ([]) 3 0 none G)(hr:P.rows=[]){r:Inp}(hi:fg r){q:Nat}(hq:(q,.rows 3 1 (aP cV [r]) 40 (0,0))∈F):Sp Tryz.prog 16 #[vP pp 0,vI 0,vS q 0 1 1] (ap [] [G]) F (λ u H'=>∃x,H'=ap [] [x] /\ (u=vI 0 /\ PeerR [] [] bp pp 1 0 3 (cC b) J (fI P [r]) ([]) 3 0 none x)):=by
 have hl:RowL cV 40 F (some ⟨q,0,none⟩) 1 [r]:=.rows q 0 1 [r] (0,0) _ _ hq (by decide) rfl (λ k hk=>by rw[Nat.zero_add]);have h2:=oz (cc:=1) h hl rfl rfl (by decide) (by decide) (λ k hk=>by have e:k=0:=(by omega);subst e;exact hi) (by rw[hr];decide);rw[hr] at h2;exact h2
theorem JW{P:PS (List Inp)}{r:Inp}(h:PeerR [] [] bp pp 1 0 3 (cC b) J (fI P [r]) ([]) 3 0 none G)(hI:PInv (gP (cC b) J) (bm (cC b) (cC b).nb) 3 P v3 0)(hr:P.rows=[])(V9:P.rb=0)(hi:fg r)(DO:∀i,i <= 50 -> (J i).1<5 /\ AtOk F bp (i:Int) (J i))(hE:cz F){n:Nat}(hn:n=if dI=r then 1 else 4):Sp Tryz.prog 17 #[vP pp 0,vI 4] (ap [] [G]) F (λ u H'=>∃y:PS (List Inp) × Nat × HL,H'=ap [] [y.2.2] /\ (u=.tuple #[vI (n:Int),vI 0] /\ PeerR [] [] bp pp 1 0 3 (cC b) J y.1 ([]) y.2.1 0 none y.2.2 /\ y.1.rb=if dI=r then 0 else 1)):=by
 have VI:PInv (gP (cC b) J) (bm (cC b) (cC b).nb) 3 (fI P [r]) v3 0:=hI.conf _;have hrw:(fI P [r]).rows=[[r]]:=by show P.rows++[[r]]=_;rw[hr];rfl
 have Vk:(fI P [r]).ck=0:=Nat.le_zero.1 hI.ck;have hu:(fI P [r]).used=v3:=by have h_:=VI.used;rw[Vk] at h_;exact h_
 have abO:(fI P [r]).rb=0:=V9;have iD:∀x∈(fI P [r]).rows,RowOk 1 x:=by
  rw[hrw];intro x hx;rw[List.mem_singleton.1 hx];exact lF rfl λ y hy=>by rw[List.mem_singleton.1 hy];exact hi
 have hrf:∀t,RowOk 1 (f7 1 0 (fI P [r]).rows (gV []) t):=λ t=>wc (pl:=1) iD (λ t x e=>by cases e) t;obtain⟨a1,a2,a3,a4⟩:=VI.adv (by decide) (T:=4) (by decide) (by rw[hrw];exact aaI 4) (f7 1 0 (fI P [r]).rows (gV [])) (λ t ht=>pn ht);have e1:eD (fI P [r]) v3.length=if dI=r then 3 else 0:=by
  unfold eD;rw[hrw,Vk,hu];show (wr [[r]] 0 ([dI]::[[dI],[dI]])).getD 3=_;rw[wr];show ((if [dI]=[r] then wr [[r]] (0+1) [[dI],[dI]] else some 0):Option Nat).getD 3=_
  by_cases e:dI=r
  ·rw[if_pos (by rw[e]),if_pos e];rfl
  ·rw[if_neg (by intro e2;exact e (by simpa using e2)),if_neg e];rfl
 refine(wj h VI (BA b) MR iD (by decide) (by decide) (by rw[hrw];show 1<50;decide) (by decide) (by decide) (by rw[abO];decide) DO hE 4 (by decide) (by rw[hrw];exact aaI 4) (by decide)).mono λ u H' q=>?_;obtain⟨x,rfl,h1,h2⟩:=q;rw[e1] at h1;refine⟨(_,_,x),rfl,?_,h2,?_⟩
 ·rw[h1,hn]
  by_cases e:dI=r
  ·rw[if_pos e,if_pos e]
  ·rw[if_neg e,if_neg e]
 ·refine a4.trans ?_;rw[e1,abO]
  by_cases e:dI=r
  ·rw[if_pos e,if_pos e];rfl
  ·rw[if_neg e,if_neg e];rfl
end
theorem C4{rs_:List Bx}{ds_:List Dr}{bp pp pl me w:Nat}{S:Setup}{J:Nat -> Nat × Int}{P:PS (List Inp)}{kv:List IvN}{c sn:Nat}{X:Option (Rw × List Inp)}{G F:HL}(h:PeerR rs_ ds_ bp pp pl me w S J P kv c sn X G)(hF:∀x∈G,x∈F){e:Int}(he:(P.rb:Int)=e):Sp Tryz.prog 20 #[vP pp 0] [] F (λ u H'=>u=vI e /\ H'=[]):=he ▸ OD h hF
theorem zp(F:HL)(hE0:pP F)(W_:cz F):Sp Tryz.prog 21 #[] [] F (λ u H'=>u=.bool true /\ H'=[]):=by
 refine aat Tryz.func21 rfl mn (A:=[]) (Ts:=[]) rfl λ w0=>?_;refine ae 17 (ow 0 16) λ n1=>aaj 1 (.rows 9 1 (mm (cC (n1+0)).bods) 90 (0,0))<|aai (Hp:=[]) (Tp:=[]) [] [] (sm 0 0 _ (by decide) (by decide) (av hE0)) ?_;rintro _ ⟨b2,T3⟩ ⟨rfl,WR⟩;dsimp only at WR
 replace WR:Book2 3 (aq 0 5).toNat (aq 0 5).toNat b2 T3:=WR
 refine ae 7 (ow 0 16) λ _=>aai (Hp:=[]) (Tp:=[]) [] [] (lI (cC (n1+0)) [] [] b2 1 0 3 (uy 3 (aq 0 5).toNat (aq 0 5).toNat 0) _ (C3 (aA 1)) (zo _ _) (show 1 <= 1 by decide) (show 0 <= 1000000 by decide) (show 0 <= 1000000 by decide) (show (60:Int).toNat <= 1000000 by decide) (zn _) rfl (by decide) (by decide) rfl rfl) ?_;rintro _ ⟨p5,T6⟩ ⟨rfl,hr7⟩;dsimp only at hr7;refine ae 7 (ow 0 16) λ _=>aai (Hp:=[]) (Tp:=[]) [] [] (lI (cC (n1+0)) [] [] b2 1 0 3 (uy 3 (aq 0 5).toNat (aq 0 5).toNat 0) _ (C3 (aA 1)) (zo _ _) (show 1 <= 1 by decide) (show 0 <= 1000000 by decide) (show 0 <= 1000000 by decide) (show (60:Int).toNat <= 1000000 by decide) (zn _) rfl (by decide) (by decide) rfl rfl) ?_;rintro _ ⟨p8,T9⟩ ⟨rfl,abR⟩;dsimp only at abR;refine ae 20 [] λ _=>aai [] [1] (JU hr7 (λ i hi=>pQ WR (au 1) (by decide) (by decide) (t:=0+i) (by omega)) (av W_)) ?_;rintro _ ⟨P11,T12⟩ ⟨rfl,Xu,Z_,XG,ZX⟩;dsimp only at Xu Z_ XG ZX
 replace Xu:PeerR [] [] b2 p5 1 0 3 (cC (n1+0)) (uy 3 (aq 0 5).toNat (aq 0 5).toNat 0) P11 ([]) 3 0 none T12:=Xu
 refine ae 10 [] λ _=>aai [] [0] (OH Xu Z_ XG ZX (λ i hi=>pQ WR (au 1) (by decide) (by decide) (t:=0+i) (by omega)) (av W_)) ?_;rintro _ SC ⟨rfl,afv⟩;refine ae 10 [] λ _=>aai [] [1] (JU abR (λ i hi=>pQ WR (au 1) (by decide) (by decide) (t:=0+i) (by omega)) (av W_)) ?_;rintro _ ⟨P19,Vm⟩ ⟨rfl,Xt,ac6,ZL,acN⟩;dsimp only at Xt ac6 ZL acN
 replace Xt:PeerR [] [] b2 p8 1 0 3 (cC (n1+0)) (uy 3 (aq 0 5).toNat (aq 0 5).toNat 0) P19 ([]) 3 0 none Vm:=Xt
 refine ae 7 [] λ VT=>aaj 0 (.rows 3 1 (aP cV [⟨0,0,0⟩]) 40 (0,0))<|aai [] [1] (JV (q:=(VT+0)) (r:=⟨0,0,0⟩) afv XG (by decide) (aA 0)) ?_;rintro _ T26 ⟨rfl,afu⟩;refine ae 7 [] λ n28=>aaj 0 (.rows 3 1 (aP cV [⟨1,0,0⟩]) 40 (0,0))<|aai [] [1] (JV (q:=(n28+0)) (r:=⟨1,0,0⟩) Xt ZL (by decide) (aA 0)) ?_;rintro _ Yb ⟨rfl,aft⟩;refine ae 5 [] λ _=>aai [] [1] (JW (n:=1) (r:=⟨0,0,0⟩) afu Z_ XG ZX (by decide) (λ i hi=>pQ WR (au 1) (by decide) (by decide) (t:=0+i) (by omega)) (av W_) (by decide)) ?_;rintro _ ⟨P31,c32,T33⟩ ⟨rfl,abQ,XN⟩;dsimp only at abQ XN
 replace XN:P31.rb=0:=XN.trans (by decide)
 refine ae 10 [] λ _=>aai [] [1] (JW (n:=4) (r:=⟨1,0,0⟩) aft ac6 ZL acN (by decide) (λ i hi=>pQ WR (au 1) (by decide) (by decide) (t:=0+i) (by omega)) (av W_) (by decide)) ?_;rintro _ ⟨P36,c37,T38⟩ ⟨rfl,abP,XM⟩;dsimp only at abP XM
 replace XM:P36.rb=1:=XM.trans (by decide)
 refine ae 37 [] λ _=>aah (C4 abQ (au 1) (by rw[XN]))<|ae 4 [] λ _=>aah (C4 abP (au 0) (by rw[XM]))<|ae 5 [] λ _=>?_;exact aap [] [] [] ⟨rfl,rfl⟩
def C5(S:Setup)(J:Nat -> Nat × Int)(xss:List (List Inp))(n:Nat):List Eff:=plE (rG S.std J xss) ⟨bm S S.nb,[],0⟩ n
theorem L9(S:Setup)(rs_:List Bx)(ds_:List Dr)(bp n cap:Nat)(J:Nat -> Nat × Int)(A:Option Addr)(rs:List Rw)(xss:List (List Inp))(F:HL)(hS:SetIn F S)(hM:MapIn F S rs_ ds_)(hV:SetV S)(Si:S.rn <= 1000000)(Vj:S.dn <= 1000000)(IN:(sizeOf S).toNat <= 1000000)(hv:lu S rs_ ds_=0)(hE:cz F)(hr:RowL jK 38 F A n rs)(hw:RwsIn F rs xss)(h9:n <= 50)(I_:∀i,i<n -> RowOk S.players (xss.getD i []))(DO:∀i,i<n -> (J i).1<5 /\ AtOk F bp (i:Int) (J i)){W:List Int}(hW:WS S J xss n=W) :
  Sp Tryz.prog 32 #[Setup.v S,vP bp 0,.slice A n cap] (ap [] []) F (λ u H'=>∃x:(Nat × Option Addr × Nat) × HL,H'=ap [(x.1.1,.rows 1 W.length (aS W) 3 (0,0))] [x.2] /\ (SlIs fG 111 (C5 S J xss n) x.1.2.1 x.1.2.2 x.2 /\ u=.tuple #[vS x.1.1 0 W.length W.length,.slice x.1.2.1 (C5 S J xss n).length x.1.2.2,vI 0])):=by
 subst hW;have hp:=hV.pl;have iD:∀S2,SetEq S S2 -> ∀i,i<n -> TkOk S2 (J i) (xss.getD i []) (kX (rG S2 J xss) ⟨bm S S.nb,[],0⟩ i):=λ S2 h2 i hi=>MH (h2.setV hV) (wa hV h2) J n (by omega) (λ i hi=>by rw[h2.pl];exact I_ i hi) i hi;have Xl:∀S2,SetEq S S2 -> ∀i,i<n -> (kX (rG S2 J xss) ⟨bm S S.nb,[],0⟩ i).get 0=(i:Int):=λ S2 h2 i hi=>(CT (h2.setV hV) (wa hV h2) J n (by omega) (λ i hi=>by rw[h2.pl];exact I_ i hi) i (by omega)).t0;refine(LO S rs_ ds_ bp n cap J A rs xss F hS hM (by have:=hV.nb;omega) Si Vj IN hv hE hr hw (λ k hk=>by have:=(I_ k hk).1;omega) (by omega) (by omega) (λ S2 h2 i hi _=>⟨.inl (iD S2 h2 i hi),(DO i hi).1,by rw[Xl S2 h2 i hi];exact(DO i hi).2⟩)).mono λ u H' h=>?_;obtain⟨⟨⟨S2,q,A2,c2⟩,C,E⟩,rfl,h2,h3⟩:=h;dsimp only at h2 h3;rcases h3 with ⟨_,h4,h5,h6⟩|⟨i,hi,_,h4,_⟩
 ·have e1:=sc (Js h2 (je S) J xss) ⟨bm S S.nb,[],0⟩ n;have e2:=Jr (Js h2 (je S) J xss) ⟨bm S S.nb,[],0⟩ n;rw[e1] at h4 h6;rw[e2] at h5 h6;subst h4;exact⟨((q,A2,c2),E),by simp[ap,WS],h5,h6⟩
 ·exact absurd (iD S2 h2 i hi).ok h4
theorem JX{ρ:Type}(g:Nat -> ρ -> Gm):∀ (V:List ρ) (t:Nat) (c:List Int) (i:Nat),((wv g t c V).getD i []).length <= 1001
 | [],_,_,i=>by simp[wv]
 | r::V,t,c,0=>by rw[wv,List.getD_cons_zero];exact vT _ _
 | r::V,t,c,i+1=>by rw[wv,List.getD_cons_succ];exact JX g V _ _ i
section
variable {S:Setup} {J:Nat -> Nat × Int} {w:Nat} {TR:Nat -> List Inp} {P:PS (List Inp)} {V:List (List Inp)} {m k:Nat}
theorem PeerI.rowsR{xs:List Int}(h:PeerI S J w (sk S xs) P V m k){n:Nat}(hn:P.rows.length=n):P.rows=dq S.players xs n:=by
 have:=h.rows;rw[hn] at this;exact this
theorem PeerI.cells(h:PeerI S J w TR P V m k)(hv:V=P.rows){n:Nat}(hn:P.rows.length=n):P.M.cs=WS S J P.rows n:=by
 have h1:=h.inv.ws;rw[hv,hn] at h1;exact h1
theorem PeerI.effsV(h:PeerI S J w TR P V m k):P.effs=wv (gP S J) 0 (bm S S.nb) V:=h.inv.effs
theorem PeerI.eff_len(h:PeerI S J w TR P V m k)(t:Nat):(P.effs.getD t []).length <= 1001:=by
 rw[h.effsV];exact JX _ _ _ _ _
theorem PeerI.eff_next(h:PeerI S J w TR P V m k){t:Nat}(ht:t<V.length):C5 S J V (t+1)=C5 S J V t++P.effs.getD t []:=by
 unfold C5;rw[h.effsV,<- Bj S J V (t+1) (by omega),<- Bj S J V t (by omega),<- oh,<- oh,pm (by rw[vX];exact ht) [],List.flatten_append];simp
end
theorem JY(S:Setup)(A:Option Addr)(n cap:Nat)(xs:List Int)(cnt:Nat)(F:HL)(hl:ArgL F A n xs)(hn:n <= 9223372036854775807)(hp:1 <= S.players /\ S.players <= 1000000)(h20:cnt <= 19){ci:Int}(hci:ci=(cnt:Int)):Sp Tryz.prog 33 #[Setup.v S,.slice A n cap,vI ci] (ap [] []) F (λ u H'=>∃x:(Option Addr × Nat × List Rw) × HL × HL,H'=ap [] [x.2.1,x.2.2] /\ (u=.slice x.1.1 cnt x.1.2.1 /\ SlIs jK 38 x.1.2.2 x.1.1 x.1.2.1 x.2.1 /\ x.1.2.2.length=cnt /\ RwsT x.1.2.2 (dq S.players xs cnt) x.2.2)):=by subst hci;exact Bu S A n cap xs cnt F hl hn hp h20
theorem C6(S:Setup)(J:Nat -> Nat × Int)(xss:List (List Inp))(n:Nat):(C5 S J xss n).length <= 1001*n:=vU _ _ _
theorem BB(A0:Option Addr)(n0 c0:Nat)(xs:List Int)(A4a:Option Addr)(n4a c4a:Nat)(TG:List Int)(A5a:Option Addr)(n5a c5a:Nat)(x5a:List Int)(b0 b1 i2 i3 i6:Int)(F:HL)(hE0:pP F)(W_:cz F)(Vh:ArgD F A0 n0 xs)(SE:n0 <= 9223372036854775807)(Wi:ArgD F A4a n4a TG)(ab3:n4a <= 9223372036854775807)(af5:ArgD F A5a n5a x5a)(afO:n5a <= 9223372036854775807)(hb0:lq b0)(U2:lq b1)(Wl:lq i2)(hi3:lq i3)(hi6:lq i6):Sp Tryz.prog 8 #[.slice A0 n0 c0,.agg #[vI b0,vI b1],vI i2,vI i3,.slice A4a n4a c4a,.slice A5a n5a c5a,vI i6] [] F (λ u H'=>u=.bool true /\ H'=[]):=by
 refine aat Tryz.func8 rfl mn (A:=[]) (Ts:=[]) rfl λ w0=>?_;refine ae 9 [] λ n1=>aai (Hp:=[]) (Tp:=[]) [] [] (Vh.up.use λ F_ h_=>Ep A0 n0 c0 xs _ h_ SE) ?_;rintro _ ⟨S,TS⟩ ⟨rfl,hG⟩;dsimp only at hG;have hF:=Ot Vh hG;have hpl:=hF.pl;have VF:=hF.nb;have Si:=hF.rn;have Vj:=hF.dn;have IN:=hF.sz;have Uq:=jT S S.nb;have hV:SetV S:=Vh.ex.elim λ _ h_=>setV h_ hG;obtain⟨pl,afD⟩:∃pl:Nat,S.players=(pl:Int):=⟨S.players.toNat,by omega⟩;have Uv:∀t,RowOk S.players (sk S TG t):=λ t=>Wi.ex.elim λ _ h_=>CU h_ (by omega) _;refine ae 10 (ow 0 16++(ow 2 2)) λ n2=>aai (Hp:=[]) (Tp:=[]) [] [] (sm b0 b1 _ hb0 U2 (av hE0)) ?_;rintro _ ⟨b3,T4⟩ ⟨rfl,hB5⟩;dsimp only at hB5;obtain⟨UA,ahA,ZD⟩:∃j,(aq b0 5).toNat=j /\ j<5:=⟨_,rfl,by have h_:=bK (n:=b0) hb0 5 (by decide);omega⟩;obtain⟨Uz,ahz,ZC⟩:∃j,(aq b1 5).toNat=j /\ j<5:=⟨_,rfl,by have h_:=bK (n:=b1) U2 5 (by decide);omega⟩;rw[ahA,ahz] at hB5;refine ae 6 [] λ _=>?_;obtain⟨RJ,agN,ajs⟩:∃k:Nat,aq i6 9=(k:Int) /\ (k:Int)<9:=⟨(aq i6 9).toNat,by have h_:=bK (n:=i6) hi6 9 (by decide);omega,by have h_:=bK (n:=i6) hi6 9 (by decide);omega⟩;refine aah (sd agN (by decide) _)<|ai 5 [.nw] [aZ (1+(RJ:Int))] λ _=>aak [] []<|ag [] [0,1,2,3,6,4] (ow 0 17) ?_;obtain⟨ar7,agM,ajr⟩:∃k:Nat,aq i2 S.players=(k:Int) /\ (k:Int)<S.players:=⟨(aq i2 S.players).toNat,by have h_:=bK (n:=i2) Wl S.players (by omega);omega,by have h_:=bK (n:=i2) Wl S.players (by omega);omega⟩;refine aac [] 5 (λ X_=>(sd agM (by omega) _)) ?_;obtain⟨ar8,agL,ajq⟩:∃k:Nat,aq i3 12=(k:Int) /\ (k:Int)<12:=⟨(aq i3 12).toNat,by have h_:=bK (n:=i3) hi3 12 (by decide);omega,by have h_:=bK (n:=i3) hi3 12 (by decide);omega⟩;refine aac [] 7 (λ X_=>(sd agL (by decide) _))<|aw [] [8] [.nw] [aZ (1+(ar8:Int))]<|aae 9 (aaf [] (Hp:=[]) (Tp:=[]) [] [] (lI S vq (lr (kv xs 3 % 3).toNat) b3 pl ar7 (1+ar8) (uy 3 UA Uz 0) _ (hG.sin _ (aA 1) (au 1)).cl (hG.maps.2 _ (au 1)) (by omega) (by omega) (by omega) (by omega) hF.val afD (by omega) (by omega) (mi:=(ar7:Int)) (wi:=(1+(ar8:Int))) (by omega) (by omega)) ?_);rintro _ ⟨p9,Tc⟩ ⟨rfl,Zm⟩;dsimp only at Zm;have acY:PeerI S (uy 3 UA Uz 0) (1+ar8) (sk S TG) (⟨⟨bm S S.nb,[],0⟩,0,[],[],0,[],[],0⟩:PS (List Inp)) [] 0 0:=zj S (uy 3 UA Uz 0) (1+ar8) (sk S TG) 0;obtain⟨Pp9,aaA⟩:∃x,(⟨⟨bm S S.nb,[],0⟩,0,[],[],0,[],[],0⟩:PS (List Inp))=x:=⟨_,rfl⟩;rw[aaA] at Zm acY;have aks:([]:List (List Inp)).length=0:=rfl;have aic:Pp9.rows.length=0:=by rw[<- aaA];rfl
 have aid:Pp9.rb=0:=by subst aaA;rfl
 refine ag [] [10] []<|aad<|ae 12 (ow 0 16) λ _=>aai [] [0] (Bz A4a A5a n4a c4a n5a c5a (1+RJ) TG x5a Zm acY rfl Uv hV (by omega) (by omega) rfl (λ i hi=>pQ hB5 (au 0) ZD ZC (t:=0+i) (by omega)) (av W_) Wi.up ab3 af5.up afO (by omega) rfl (ti:=(1+(RJ:Int))) (by omega)) ?_;rintro _ ⟨⟨P12,ak0,c14,V15,m16⟩,SC⟩ ⟨rfl,SL,No,XK,Xk,Xs⟩;dsimp only at SL No XK Xk Xs;have afe:V15.length=(1+RJ):=by rw[Xk];exact Xs
 have Wy:=No.rowsR Xs;have YM:=No.cells Xk Xs;rw[Wy] at YM;have agt:=No.inv.len_cs;have air:=No.vlen;have ai6:=No.lim;refine ae 8 [] λ _=>aak [] []<|ag [] [0,1,2,3,4] (ow 0 32)<|aae 5 (aaf [] (Hp:=[]) (Tp:=[]) [] [] (Wi.up.use λ F_ h_=>JY S A4a n4a c4a TG (1+RJ) F_ h_ ab3 (by omega) (by omega) (ci:=(1+(RJ:Int))) (by omega)) ?_);rintro _ ⟨⟨A23,c24,aeD⟩,E26,UL⟩ ⟨rfl,abI,ab_,acS⟩;dsimp only at abI ab_ acS;have ZF:∀i,i<(1+RJ) -> RowOk S.players ((dq S.players TG (1+RJ)).getD i []):=λ i hi=>Wi.ex.elim λ _ h_=>si h_ (by omega) (1+RJ) i hi;have Y_:=Ox (J:=(uy 3 UA Uz 0)) (xss:=dq S.players TG (1+RJ)) hV (je S) (n:=(1+RJ)) (by omega) (λ i hi=>Wi.ex.elim λ _ h_=>si h_ (by omega) (1+RJ) i hi) (aaI _);obtain⟨Ta,XO⟩:∃W,WS S (uy 3 UA Uz 0) (dq S.players TG (1+RJ)) (1+RJ)=W:=⟨_,rfl⟩;rw[XO] at Y_;have ai5:Ta.length <= 1000000:=by omega
 refine aae 6 (aaf [] (Hp:=[]) (Tp:=[]) [] [] (L9 S vq (lr (kv xs 3 % 3).toNat) b3 (1+RJ) c24 (uy 3 UA Uz 0) A23 aeD (dq S.players TG (1+RJ)) _ (hG.sin _ (aA 1) (au 4)) (hG.maps.2 _ (au 4)) hV (by omega) (by omega) (by omega) hF.val (av W_) (abI.rowN (au 0) ab_) (acS _ (au 1)) (by omega) ZF (λ i hi=>pQ hB5 (au 3) ZD ZC (t:=0+i) (by omega)) XO) ?_);rintro _ ⟨⟨q32,A33,c34⟩,E35⟩ ⟨V5,rfl⟩;dsimp only at V5;refine ag [] [7,8,9,10,11,12,13] []<|aad<|ae 13 [] λ _=>aao ?_;have ZZ:=Xk.trans Wy;refine aan (σ:=Nat × Option Addr × Nat × HL) (λ ⟨t_,A_,c_,T_⟩=>⟨[(17,vI (1+(RJ:Int))),(18,vP p9 0),(19,vS q32 0 Ta.length Ta.length),(20,.slice A33 ((C5 S (uy 3 UA Uz 0) (dq S.players TG (1+RJ)) (1+RJ)).length) c34),(21,vI 0),(22,.slice A_ ((C5 S (uy 3 UA Uz 0) (dq S.players TG (1+RJ)) t_).length) c_),(23,vI (t_:Int))],[(q32,.rows 1 Ta.length (aS Ta) 3 (0,0)),((n2+0),.lit (Setup.l S) 31 (0,0)),(S.bb,.rows 9 S.bR (mm S.bods) 90 (0,0)),((n1+0),.lit [vI b0,vI b1] 55 (0,0))],[T_,E35,E26,UL,SC,T4,TS],t_ <= (1+RJ) /\ SlIs fG 111 (C5 S (uy 3 UA Uz 0) (dq S.players TG (1+RJ)) t_) A_ c_ T_,(1+RJ)-t_⟩) (0,none,0,[]) [0,1,2,3] [0,1,2,3,4,5,6] (⟨aaJ _,aas _ _⟩) ?_;rintro⟨t_,A_,c_,T_⟩ ⟨ht_,RL⟩ aeI;refine ae 8 [] λ _=>aal ((t_:Int)<1+(RJ:Int)) 68 (λ h39=>?_) λ h39=>?_
 ·refine ae 9 [] λ _=>aai (Hp:=[]) (Tp:=[]) [] [] (Fp (t:=t_) SL (au 4) (No.t0 hV (by have h_:=No.vlen;have Sr:=No.lim;omega)) (by omega) (by omega) rfl (by have h_:=No.eff_len t_;omega)) ?_;rintro _ ⟨A40,c41,X9⟩ ⟨rfl,acp⟩;dsimp only at acp;refine RN.appU (c':=c41) (tx:=58) mW (C5 S (uy 3 UA Uz 0) (dq S.players TG (1+RJ)) t_) (P12.effs.getD t_ []) 1 rfl RL (by have Xa:=C6 S (uy 3 UA Uz 0) (dq S.players TG (1+RJ)) t_;have Sr:=No.eff_len t_;omega) (RowL.src mW (by decide) (acp.rowL (au 0))) ?_;rintro A44 c45 T46 ⟨afm,ak4⟩;refine ai 9 [.nw] [aZ ((t_:Int)+1)] λ _=>aK 22 (congrArg (λ v_=>(.slice A44 v_ c45:Value)) (show (C5 S (uy 3 UA Uz 0) (dq S.players TG (1+RJ)) t_).length+(P12.effs.getD t_ []).length=(C5 S (uy 3 UA Uz 0) (dq S.players TG (1+RJ)) (t_+1)).length by rw[<- ZZ,No.eff_next (by omega),aaK])) ?_;refine aeI (t_+1,A44,c45,T46) [0,1,2,3] [0,2,3,4,5,6,7] ?_
  try dsimp only
  exact⟨⟨by omega,by rw[<- ZZ,No.eff_next (by omega),ZZ];exact afm⟩,by omega⟩
 ·have et_:t_=(1+RJ):=by omega
  subst et_;refine ae 12 [] λ _=>aah (se SL (au 4) (No.t0 hV (by have h_:=No.vlen;have Sr:=No.lim;omega)))<|ae 4 [] λ _=>aal ((V15.length:Int)=1+(RJ:Int)) 84 (λ h49=>?_) λ h49=>?_
  ·refine ae 1 [] λ _=>aai (Hp:=[]) (Tp:=[]) [] [] (L2 SL (au 4) (YM.trans XO)) ?_;rintro _ q50 rfl;refine ae 1 [] λ _=>aah (Cd true q50 q32 Ta.length Ta.length Ta.length Ta.length Ta.length Ta.length Ta Ta _ (aA 0) (aA 1) (aaI _) (aaI _) (by omega) (aa5 ⟨rfl,λ t ht=>rfl⟩))<|ae 3 [] λ _=>aai [] [4] (Fq (k0:=(1+RJ)) (W:=Ta) SL (No.t0 hV (by have h_:=No.vlen;have Sr:=No.lim;omega)) (by omega) (by omega) hV (by omega) (No.rowsOk Uv) (λ i hi=>pQ hB5 (au 4) ZD ZC (t:=0+i) (by omega)) (av W_) (by omega) (by rw[Wy];exact XO)) ?_;rintro _ ⟨q51,X7⟩ ⟨rfl,alv⟩;refine ae 1 [] λ _=>aah (Cd true q51 q32 Ta.length Ta.length Ta.length Ta.length Ta.length Ta.length Ta Ta _ (aA 0) (aA 2) (aaI _) (aaI _) (by omega) (aa5 ⟨rfl,λ t ht=>rfl⟩))<|ae 4 [] λ _=>aah (EY A_ A33 (C5 S (uy 3 UA Uz 0) (dq S.players TG (1+RJ)) (1+RJ)).length c_ c34 (C5 S (uy 3 UA Uz 0) (dq S.players TG (1+RJ)) (1+RJ)) _ (RL.toRowL (au 1)) (V5.toRowL (au 2)) (by have Xa:=C6 S (uy 3 UA Uz 0) (dq S.players TG (1+RJ)) (1+RJ);omega))<|ae 2 [] λ _=>aah (zp _ (av hE0) (av W_))<|ae 4 [] λ _=>?_;exact aap [] [] [] ⟨rfl,rfl⟩
  ·(exfalso;omega)
open Go.ChangeShapes Go.WideShapes Go.ChangeAt
theorem JZ:ownKnob Tryz.prog.godebug=none:=by kernel_rfl
theorem J0:laidOutB Tryz.prog=true:=by kernel_rfl
theorem iK{n:Int}(h:(Lit.int .i64 n).wf=true):-9223372036854775808 <= n /\ n <= 9223372036854775807:=bounds_i64 h
section
variable {H:Type} {enc:TypeId × Value -> H} {P:Program} {W W':World}
theorem mM(hl:laidOutB P=true)(hb:Below W.heap.size W W'):∀ {ts:List TypeId} {vs:List Value} {ds:List (DataW H)} {ps:List MemPlace},(∀t∈ts,P.readableRec t=true /\ t<P.types.size) ->
  DataW.TrodAll enc P W 0 (λ _=>true) true ts vs ds ps -> (∀x∈ps,x.block<W.heap.size) -> DataW.TrodAll enc P W' 0 (λ b=>decide (b<W.heap.size)) true ts vs ds ps
 | [],_,_,_,_,h,_=>by
  obtain⟨rfl,rfl,rfl⟩:=trodAll_nil h;exact trodAll_mk0
 | t::ts,_,_,_,ht,h,iN=>by
  obtain⟨v,vs1,d,ds1,a,b,rfl,rfl,rfl,h1,h2⟩:=trodAll_cons h;have h3:=ht t (by simp);exact trodAll_cons_mk (Below.trod hl h3.1 h3.2 h1 hb (λ x hx=>iN x (by simp[hx]))) (mM hl hb (λ t h=>ht t (aaC _ h)) h2 (λ x hx=>iN x (by simp[hx])))
theorem J1{f:Func}{s:ChangeSpec}{apart fresh handsOn:Bool}{args:Array Value}{v:Value}{ds:List (DataW H)}{before:List MemPlace}(hl:laidOutB P=true)
  (hts:∀t∈f.params.toList,P.readableRec t=true /\ t<P.types.size)
  (hW:DataW.Whole enc P f.params.toList s.vars apart W args.toList ds [] before) (hs:s.vars=[])
  (hA:DataW.TrodAll enc P W 0 (λ _=>true) true f.params.toList args.toList ds before)
  (TT:∀ (b:Nat) (sp:Nat -> Bool) (hd:Bool),DataW.TrodAll enc P W' b sp hd f.resultTypes.toList (v.resultList f.resultTypes.size) (s.fn H (ds++[])).results [])
  (Vl:(s.fn H (ds++[])).args=ds) (abv:∀sp,DataW.TrodVars enc P W' sp s.vars (s.fn H (ds++[])).vars []) (hb:Below W.heap.size W W') :
  s.post enc P f apart fresh handsOn false W args v W':=by
 refine⟨ds,[],before,[],before,[],hW,TT _ _ _,?_,abv _,hb.frame _,λ h=>by cases h⟩;rw[Vl];exact mM hl hb hts hA (λ x hx=>hW.lt x hx)
end
def so:Obj -> Blk
 | .cells cs ty fz=>.rows 1 cs.size (λ i _=>cs.getD i default) ty fz
 | o=>.obj o
theorem mj(o:Obj):(so o).den=o:=by
 cases o with
 | cells cs ty fz =>
  show Obj.cells ⟨bC 1 (λ i _=>cs.getD i default) cs.size⟩ ty fz=_;congr 1;have e:bC 1 (λ i _=>cs.getD i default) cs.size=cs.toList:=by
   refine kg (by simp) ?_;intro i k hi hk;obtain rfl:k=0:=by omega
   simp[Array.getD,hi]
  rw[e]
 | _=>rfl
def lJ(w:World):HL:=List.ofFn (λ k:Fin w.heap.size=>(k.1,so w.heap[k.1]))
theorem sr{w:World}{k:Nat}{o:Obj}(h:w.heap[k]?=some o):(k,so o)∈lJ w:=by
 obtain⟨hk,he⟩:=Array.getElem?_eq_some_iff.1 h;exact List.mem_ofFn.2 ⟨⟨k,hk⟩,by simp[he]⟩
theorem BC(w:World):Rel (lJ w) w:=by
 refine⟨λ x hx=>?_,?_⟩
 ·obtain⟨k,rfl⟩:=List.mem_ofFn.1 hx;simp[mj]
 ·unfold lJ;rw[List.map_ofFn];have e:List.ofFn ((λ x:Nat × Blk=>x.1) ∘ λ k:Fin w.heap.size=>(k.1,so w.heap[k.1]))=List.range w.heap.size:=by
   apply List.ext_getElem
   ·simp
   ·intro i h1 h2;simp
  rw[e];exact List.nodup_range
theorem Fx{P:Program}{f:FuncId}{args:Array Value}{v:Value}(w:World)(h:Sp P f args [] (lJ w) (λ u H'=>u=v /\ H'=[])):Calls P f args w λ e w'=>e=.returned v /\ Below w.heap.size w w':=by
 refine(h w (BC w)).mono ?_;rintro e w' ⟨u,H',rfl,⟨rfl,rfl⟩,C_,hB⟩;refine⟨rfl,hB.os,hB.tape,hB.output,hB.size,λ k hk=>?_⟩;have:=C_.holds (k,so w.heap[k]) (by rw[List.nil_append];exact sr (by simp[hk]));rw[this];simp[mj,hk]
theorem su{H:Type}{enc:TypeId × Value -> H}{w:World}{r:Reach}{b0:Nat}{v:Value}{d:DataW H}{ps:List MemPlace}(H_:Value.okWide Tryz.prog w r b0 22 v)(hd:DataW.Trod enc Tryz.prog w 0 (λ _=>true) true 22 v d ps) :
  ∃ (A:Option Addr) (n cap:Nat) (xs:List Int),v=.slice A n cap /\ n <= 9223372036854775807 /\ ArgL (lJ w) A n xs /\ n <= cap:=by
 obtain⟨a0,len,cap,rfl⟩:=okWide_slice Tryz.underlying22 H_;obtain⟨fuel,hf⟩:=hd;rcases open_ints Tryz.underlying22 Tryz.underlying3 (by kernel_rfl) hf with ⟨VH,hx⟩|⟨a,akY,g_,zs,VH,_,hl,hm,hz,hx,OF,hwz⟩
 ·simp[Value.cells] at VH;obtain⟨rfl,rfl,rfl⟩:=VH;exact⟨none,0,0,[],rfl,by omega,.zero _,aaI _⟩
 ·simp[Value.cells] at VH;obtain⟨rfl,rfl,rfl⟩:=VH;unfold maxLen at hm;simp at hz;rcases Nat.eq_zero_or_pos len with h0|Zp
  ·subst h0;exact⟨some a,0,_,[],rfl,by omega,.zero _,aaJ _⟩
  ·have hlz:len <= zs.length:=by omega
   obtain⟨b,off,spot⟩:=a;have c0:=OF 0 (by omega);have Vc:spot=none:=by
    cases spot with
    | none=>rfl
    | some s=>simp[Addr.add,World.cell?] at c0;split at c0 <;> simp at c0
   subst Vc;have hc:∀i,i<zs.length -> w.cell? ⟨b,off+i,none⟩=some (.int .i64 (zs.getD i 0)):=λ i hi=>by
    have:=OF i hi;unfold Addr.add at this
    by_cases h:i=0
    ·subst h;simpa using this
    ·rw[if_neg h] at this;exact this
   have h0:=hc 0 (by omega);unfold World.cell? at h0;split at h0
   case h_2=>cases h0
   rename_i cs ty fz hb;refine⟨some ⟨b,off,none⟩,len,cap,zs.take len,rfl,by omega,?_,hl⟩;have hlen:(zs.take len).length=len:=by rw[aaL];omega
   have VH:∀k,k<len -> cs[off+k]?=some (vI ((zs.take len).getD k 0)):=λ k hk=>by
    have h1:=hc k (by omega);unfold World.cell? at h1;rw[show w.heap[(⟨b,off+k,none⟩:Addr).block]?=some (.cells cs ty fz) from hb] at h1;have h2:cs[off+k]?=some (.int .i64 (zs.getD k 0)):=by simpa using h1
    rw[h2];simp[aaE,aa2,hk]
   have afU:=sr hb;have hle:off+len <= cs.size:=by
    have h1:=VH (len-1) (by omega);have h2:=(Array.getElem?_eq_some_iff.1 h1).1;omega
   have:=ArgL.cells (F:=lJ w) b off cs.size (λ i _=>cs.getD i default) ty fz (zs.take len) afU (by rw[hlen];exact hle) (λ k hk=>by
    rw[hlen] at hk;have h1:=VH k hk;simp only[Array.getD_eq_getD_getElem?];rw[h1];rfl) (λ k hk=>by
    rw[hlen] at hk;have:(zs.take len).getD k 0∈zs:=by
     rw[aaE,aaO (by omega)];exact List.mem_of_mem_take (List.getElem_mem _)
    exact iK (hwz _ this))
   rw[hlen] at this;exact this
theorem sV{H:Type}{enc:TypeId × Value -> H}{P:Program}{w:World}{base:Nat}{sp:Nat -> Bool}{held:Bool}{fuel:Nat}{t e:TypeId}{n m:Nat}{k:IntKind}{fs:Array Field}{cs:List Value}{zs:List (List Int)}{p:List MemPlace}
  (ht:P.underlying t=some (.array n e)) (he:P.underlying e=some (.struct fs)) (YC:P.cellsOf e=m) (hct:P.cellsOf t=n*m) (hm:0<m) (Sl:fs.toList.length=m)
  (hf:∀ (j:Nat) f,fs.toList[j]?=some f -> P.underlying f.type=some (.int k) /\ P.cellsOf f.type=1 /\ f.offset=j) (hz:∀z∈zs,z.length=m)
  (h:DataW.trod enc P w base sp held fuel t cs=some (.agg (zs.map λ z=>.agg (z.map λ x=>.lit (.int k x))),p)) :
  cs.length=n*m /\ zs.length=n /\ ∀i j,i<n -> j<m -> cs[i*m+j]?=some (.int k ((zs.getD i []).getD j 0)):=by
 cases fuel with
 | zero=>simp[DataW.trod] at h
 | succ fuel =>
  simp only[DataW.trod,ht,YC,hct] at h;split at h
  case isFalse=>cases h
  rename_i hl;obtain⟨xs,hmm,hx⟩:=Option.map_eq_some_iff.1 h;have Y2:xs.map (·.1)=zs.map λ z=>(DataW.agg (z.map λ x=>.lit (.int k x)):DataW H):=by
   have:=congrArg Prod.fst hx;simpa using this
  have hxl:xs.length=n:=by simpa using Lib.mapM_length hmm
  have UQ:zs.length=n:=by
   have:=congrArg List.length Y2;simp at this;omega
  refine⟨hl,UQ,λ i j hi hj=>?_⟩;obtain⟨b,hb,hfb⟩:=Lib.mapM_at hmm i i (by simp[hi]);have hbz:b.1=.agg ((zs.getD i []).map λ x=>.lit (.int k x)):=by
   have h2:(xs.map (·.1))[i]?=some b.1:=by simp[hb]
   rw[Y2,List.getElem?_map,aaO (by omega)] at h2;simp only[Option.map_some,Option.some.injEq] at h2;rw[<- h2,aaE,aaO (by omega)];rfl
  have hzi:(zs.getD i []).length=m:=by
   rw[aaE,aaO (by omega)];exact hz _ (List.getElem_mem _)
  cases fuel with
  | zero=>simp[DataW.trod] at hfb
  | succ fuel =>
   have XF:=hfb;simp only[DataW.trod,he,YC] at XF;split at XF
   case isFalse=>cases XF
   rename_i L_;obtain⟨ys,hym,hy⟩:=Option.map_eq_some_iff.1 XF;have hys:ys.map (·.1)=(zs.getD i []).map λ x=>(DataW.lit (.int k x):DataW H):=by
    have:=congrArg Prod.fst hy;rw[hbz] at this;simpa using this
   have hfj:fs.toList[j]?=some (fs.toList[j]'(by omega)):=aaO (by omega);obtain⟨c,hc,hfc⟩:=Lib.mapM_at hym j _ hfj;obtain⟨f1,f2,f3⟩:=hf j _ hfj;rw[f2,f3] at hfc;obtain⟨x,hcx,hcd,_⟩:=DataW.trod_int f1 hfc;have h1:(((cs.drop (i*m)).take m).drop j).take 1=[.int k x]:=hcx;have h2:cs[i*m+j]?=some (.int k x):=by
    have:=congrArg (·[0]?) h1;simpa [aa2,aa1,hj] using this
   have h3:(ys.map (·.1))[j]?=some (DataW.lit (.int k x):DataW H):=by simp[hc,hcd]
   rw[hys,List.getElem?_map,aaO (by omega)] at h3;simp only[Option.map_some,Option.some.injEq,DataW.lit.injEq,Lit.int.injEq,true_and] at h3;have h4:∀l:List Int,(hl:j<l.length) -> l[j]=l.getD j 0:=λ l hl=>by simp[aaE,hl]
   rw[h2,<- h3,h4 _ (by omega)]
theorem kI{H:Type}{enc:TypeId × Value -> H}{a:Assume}{C:Checked}{os:Os}{f:FuncId}{fn:Func}{s:ChangeSpec}{conds:List PathCond}{apart fresh handsOn again:Bool}{X:World -> Array Value -> Prop}
  (hX:∀ (w w':World) (args:Array Value),w.heap=w'.heap -> X w args -> X w' args)
  (own:ownKnob C.prog.godebug=none) (started:os.Started) (YW:C.prog.inits.idxOf? f=none) (ZG:C.prog.funcs[f]?=some fn)
  (witness:∃ (w:World) (tape:Tape) (i:Input),w.os=os /\ (w.forCall tape i).Shaped C.prog /\ i.vars=[] /\ Input.okWide C.prog (w.forCall tape i) .any w.heap.size f i /\
   ((s.pre enc C.prog fn conds apart (w.forCall tape i).memory i.args /\ X (w.forCall tape i).memory i.args) /\ sizedMet enc C.prog fn (OpenSpec.ofChange s) apart (w.forCall tape i).memory i.args) /\ a.holds C.prog (lone (Frame.enter C.prog f i.args .normal) [] (w.forCall tape i)))
  (WU:∀ (W:World) (base:Nat) (args:Array Value) (ds gs:List (DataW H)) (before:List MemPlace),W.ShapedOpen C.prog ->
   (∀ (j:Nat) t v,fn.params[j]?=some t -> args[j]?=some v -> Value.okWide C.prog W .any base t v) ->
   DataW.Whole enc C.prog fn.params.toList s.vars apart W args.toList ds gs before -> X W args ->
   Calls C.prog f args W λ e W'=>∃v,e=.returned v /\ s.post enc C.prog fn apart fresh handsOn again W args v W') :
  ReturnsInHanded a C os f .any (λ w args=>(s.pre enc C.prog fn conds apart w args /\ X w args) /\ sizedMet enc C.prog fn (OpenSpec.ofChange s) apart w args) (s.post enc C.prog fn apart fresh handsOn again):=by
 refine returnsInHanded_of_calls own started YW witness ?_;intro w tape i _ VD _ iD R0 agf;obtain⟨_,_,_,fn',agn,_,_,_,_,H_⟩:=iD;have e:fn'=fn:=Option.some.inj (agn.symm.trans ZG);subst e;obtain⟨⟨⟨ds,gs,before,hw,hc⟩,hx⟩,hz⟩:=R0;have Za:=DataW.Whole.of_heap (w':=w.forCall tape i) (by rfl) hw;refine(WU (w.forCall tape i) w.heap.size i.args ds gs before VD H_ Za (hX _ _ _ (by rfl) hx)).mono λ e W' ⟨v,he,hp⟩=>?_;subst he;exact ChangeSpec.post_blind hp
def ceZ:List (List Int):=[[0,0],[0,1],[0,1],[1,0],[1,1],[2,0],[0,1],[0,1],[0,1],[2,1],[2,1],[2,1],[2,1],[1,1],[2,1],[2,1],[2,1],[1,1],[0,0],[1,0],[2,0],[0,0]]
def C7:Nat -> Nat -> Value:=λ i j=>.int .i64 ((ceZ.getD i []).getD j 0)
theorem J3:(Blk.rows 2 22 C7 270 (0,0)).den=(Blk.lit vO 270 (0,0)).den:=by kernel_rfl
def efZ:List (List Int):=nP.map λ z=>[z.1,z.2.1,z.2.2]
theorem zq(g:Nat)(t:TypeId)(hg:g<Tryz.prog.globals.size)(h0:(((begin Tryz.prog (λ _ _=>0) default).world.heap[g]?).bind Obj.row?).map (·.2)=some t){W:World}(hs:W.ShapedOpen Tryz.prog):∃cs,W.heap[g]?=some (.cells cs t (0,0)):=by
 cases h:((begin Tryz.prog (λ _ _=>0) default).world.heap[g]?).bind Obj.row? with
 | none=>rw[h] at h0;cases h0
 | some x =>
  obtain⟨z,t'⟩:=x;rw[h] at h0;simp only[Option.map_some,Option.some.injEq] at h0;subst h0;obtain⟨cs,h1,_⟩:=hs.1 g z t' hg h;exact⟨cs,h1⟩
def J4(P:Program)(e:TypeId)(m:Nat):Bool :=
 match P.underlying e with
 | some (.struct fs)=>decide (fs.toList.length=m) && (List.range m).all λ j =>
  match fs.toList[j]? with
  | some f=>(match P.underlying f.type with|some (.int .i64)=>true|_=>false) && decide (P.cellsOf f.type=1) && decide (f.offset=j)
  | none=>false
 | _=>false
theorem Fy{P:Program}{e:TypeId}{m:Nat}(h:J4 P e m=true):∃fs:Array Field,P.underlying e=some (.struct fs) /\ fs.toList.length=m /\
  ∀ (j:Nat) f,fs.toList[j]?=some f -> P.underlying f.type=some (.int .i64) /\ P.cellsOf f.type=1 /\ f.offset=j:=by
 unfold J4 at h;split at h
 case h_2=>cases h
 rename_i fs hfs;rw[aaV] at h;have hm:fs.toList.length=m:=aa0 h.1;refine⟨fs,hfs,hm,λ j f hj=>?_⟩;have hjm:j<m:=by rw[<- hm];exact(List.getElem?_eq_some_iff.1 hj).1
 have h2:=List.all_eq_true.1 h.2 j (List.mem_range.2 hjm);rw[hj] at h2;simp only[aaV,decide_eq_true_eq] at h2;refine⟨?_,h2.1.2,h2.2⟩;have h3:=h2.1.1;split at h3
 ·assumption
 ·cases h3
theorem C8{P:Program}{W:World}{name:String}{g n m:Nat}{t e:TypeId}{zs:List (List Int)}{rest:List (String × DataW Unit)}{ps:List MemPlace}{row:Nat -> Nat -> Value}{cs0:Array Value}
  (hb:W.heap[g]?=some (.cells cs0 t (0,0)))
  (hg:P.globalNamed name=some g) (hty:(P.globals[g]?).map (·.type)=some t) (ht:P.underlying t=some (.array n e)) (hE:J4 P e m=true) (YC:P.cellsOf e=m) (hct:P.cellsOf t=n*m) (hm:0<m) (hz:∀z∈zs,z.length=m)
  (I_:∀i j,i<n -> j<m -> row i j=.int .i64 ((zs.getD i []).getD j 0))
  (h:DataW.LaidVars P W ((name,.agg (zs.map λ z=>.agg (z.map λ x=>.lit (.int .i64 x))))::rest) ps):W.heap[g]?=some (Blk.rows m n row t (0,0)).den /\ ∃q,DataW.LaidVars P W rest q:=by
 obtain⟨fs,he,Sl,hf⟩:=Fy hE;obtain⟨g',t',cs,fuel,p,q,hg',ht',aff,hd,hr,_⟩:=h;obtain rfl:=Option.some.inj (hg.symm.trans hg');obtain rfl:=Option.some.inj (hty.symm.trans ht');have hv:W.var? P name=some cs0:=by
  unfold World.var?;rw[hg];simp only[Option.bind_some,hb]
 obtain rfl:=Option.some.inj (hv.symm.trans aff);obtain⟨h1,h2,h3⟩:=sV ht he YC hct hm Sl hf hz hd;refine⟨?_,q,hr⟩;rw[hb];show some (Obj.cells cs0 t (0,0))=some (Obj.cells ⟨bC m row n⟩ t (0,0));congr 2;obtain⟨l⟩:=cs0;congr 1
 symm
 exact kg (w:=m) h1 λ i j hi hj=>by rw[I_ i j hi hj];exact h3 i j hi hj
theorem Ma {W:World} (hs:W.ShapedOpen Tryz.prog) (hL:laidMetH Tryz.prog [("arenanet/compile.effects",Rows.laid_arenanet_compile_effects),("arenanet/vm.effects",Rows.laid_arenanet_vm_effects)] W):W.heap[0]?=some (Blk.lit vO 270 (0,0)).den /\ W.heap[1]?=some (Blk.rows 3 22 mU 332 (0,0)).den:=by
 rw[MakeChecks.laidMetH_plain _ _ _ (by kernel_rfl)] at hL;obtain⟨ps,hv,_,_⟩:=hL;obtain⟨cs0,hb0⟩:=zq 0 270 (aa0 (by kernel_rfl)) (by kernel_rfl) hs;obtain⟨cs1,U2⟩:=zq 1 332 (aa0 (by kernel_rfl)) (by kernel_rfl) hs;have Zd:DataW.LaidVars Tryz.prog W (("arenanet/compile.effects",.agg (ceZ.map λ z=>.agg (z.map λ x=>.lit (.int .i64 x)))) :: [("arenanet/vm.effects",.agg (efZ.map λ z=>.agg (z.map λ x=>.lit (.int .i64 x))))]) ps:=hv;obtain⟨h0,q,hq⟩:=C8 (n:=22) (m:=2) (e:=269) (row:=C7) hb0 (by kernel_rfl) (by kernel_rfl) (by kernel_rfl) (by kernel_rfl) (by kernel_rfl) (by kernel_rfl) (by decide) (by decide) (λ i j hi hj=>rfl) Zd;obtain⟨h1,_⟩:=C8 (n:=22) (m:=3) (e:=331) (row:=mU) U2 (by kernel_rfl) (by kernel_rfl) (by kernel_rfl) (by kernel_rfl) (by kernel_rfl) (by kernel_rfl) (by decide) (by decide) (λ i j hi hj=>by
  have key:∀i:Fin 22,∀j:Fin 3,(if j.1=0 then (nP.getD i.1 (0,0,0)).1 else if j.1=1 then (nP.getD i.1 (0,0,0)).2.1 else (nP.getD i.1 (0,0,0)).2.2)=(efZ.getD i.1 []).getD j.1 0:=by decide
  have:=key ⟨i,hi⟩ ⟨j,hj⟩;rcases j with _|_|_|j
  ·exact congrArg (Value.int .i64) this
  ·exact congrArg (Value.int .i64) this
  ·exact congrArg (Value.int .i64) this
  ·omega) hq
 exact⟨h0.trans (congrArg some J3),h1⟩
def sw(W:World):HL:=List.ofFn (λ k:Fin W.heap.size=>(k.1,if k.1=0 then Blk.lit vO 270 (0,0) else if k.1=1 then Blk.rows 3 22 mU 332 (0,0) else so W.heap[k.1]))
theorem BD{W:World}(h0:W.heap[0]?=some (Blk.lit vO 270 (0,0)).den)(h1:W.heap[1]?=some (Blk.rows 3 22 mU 332 (0,0)).den):eF (lJ W)=eF (sw W):=by
 unfold eF lJ sw;rw[List.map_ofFn,List.map_ofFn];congr 1;funext k;show (k.1,(so W.heap[k.1]).den)=(k.1,Blk.den (if k.1=0 then _ else if k.1=1 then _ else _));rw[mj];congr 1
 by_cases e0:k.1=0
 ·rw[if_pos e0];have h2:W.heap[k.1]?=some (Blk.lit vO 270 (0,0)).den:=by rw[show W.heap[k.1]?=W.heap[0]? by rw[e0]];exact h0
  rw[Array.getElem?_eq_getElem k.2] at h2;exact Option.some.inj h2
 ·rw[if_neg e0]
  by_cases e1:k.1=1
  ·rw[if_pos e1];have h2:W.heap[k.1]?=some (Blk.rows 3 22 mU 332 (0,0)).den:=by rw[show W.heap[k.1]?=W.heap[1]? by rw[e1]];exact h1
   rw[Array.getElem?_eq_getElem k.2] at h2;exact Option.some.inj h2
  ·rw[if_neg e1,mj]
theorem J5{W:World}(h0:W.heap[0]?=some (Blk.lit vO 270 (0,0)).den):pP (sw W) :=
 List.mem_ofFn.2 ⟨⟨0,(Array.getElem?_eq_some_iff.1 h0).1⟩,rfl⟩
theorem J6{W:World}(h1:W.heap[1]?=some (Blk.rows 3 22 mU 332 (0,0)).den):cz (sw W) :=
 List.mem_ofFn.2 ⟨⟨1,(Array.getElem?_eq_some_iff.1 h1).1⟩,rfl⟩
open Go.Joins
theorem Fz{H:Type}{enc:TypeId × Value -> H}{P:Program}{w:World}{base:Nat}{spare:Nat -> Bool}{held:Bool}{r:Reach}{b0:Nat}{t e:TypeId}{v:Value}{d:DataW H}{p:List MemPlace}(hs:P.underlying t=some (.array 2 e))(hC:P.cellsOf t=2)(YC:P.cellsOf e=1)
  (hv:Value.okWide P w r b0 t v) (h:DataW.Trod enc P w base spare held t v d p) :
  ∃ (v0 v1:Value) (y0 y1:DataW H × List MemPlace) (n:Nat),v=.agg #[v0,v1] /\ d=.agg [y0.1,y1.1] /\ p=y0.2++y1.2 /\
   DataW.trod enc P w base spare held n e [v0]=some y0 /\ DataW.trod enc P w base spare held n e [v1]=some y1:=by
 simp only[Value.okWide,hs] at hv;obtain⟨cs,rfl,IN,_⟩:=hv;rw[hC] at IN;obtain⟨l⟩:=cs
 match l,IN with
 | [c0,c1],_ =>
  obtain⟨fuel,hf⟩:=h;obtain⟨xs,m,rfl,hx,_,hlen,hi⟩:=DataW.trod_array hs hf
  match xs,hlen with
  | [y0,y1],_ =>
   simp only[Prod.mk.injEq] at hx;have i0:=hi 0 (by decide);have i1:=hi 1 (by decide);simp only[YC,Value.cells] at i0 i1;exact⟨c0,c1,y0,y1,m,rfl,by simpa using hx.1,by simpa using hx.2,by simpa using i0,by simpa using i1⟩
end Go.Proofs.YtdppjkjbghbnjaaGreatDoor
