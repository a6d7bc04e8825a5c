import Derived.Test.YtogafelgppjklaaGreatDoorQ02
set_option maxHeartbeats 4000000
set_option maxRecDepth 100000
set_option linter.all false
namespace Go.Proofs.YtogafelgppjklaaGreatDoor
open IntKind
open Go.RowKit
section
variable {Aa Ab:Option Addr} {F T T0:HL} {J:Nat->HL->Prop} {M:MemS} {a b s:Shp} {ba bb cap cb k mb q:Nat} {la lb:List V2} {ra rb:Int} (t:Stp) (pa off:V2) (tb:Nat) (pb pos ax:V2)
def j0(t:Stp):Bool:=if aR (t.i+1)<t.S.nb then t.ended else true
def fF(t:Stp)(M:MemS):MemS:=if af t.S t.i>=0 then M.set (af t.S t.i+7) (if M.get (af t.S t.i+2)=0 then if M.get (af t.S t.i+3)=0 then (if 1000<aR (M.get (af t.S t.i+7)+1) then 1000 else aR (M.get (af t.S t.i+7)+1)) else 0 else 0) else M
def eT(M:MemS):Nat->MemS
 |0=>M
 |n+1=>(eT M n).set ((n+1:Nat):Int) 0
def lq(t:Stp)(M:MemS):MemS:=if aR (t.i+1)<t.S.nb then M.set 2 (aR (t.i+1)) else eT (M.set 0 (aR (M.get 0+1))) 10
def fX(t:Stp)(M:MemS):MemS:=lq t (fF t M)
def gc(t:Stp)(M:MemS):V2:=au (if ai t.S t.i>=0 then aF (aF ⟨(av t.S M t.i).vx,(av t.S M t.i).vy⟩ t.S.g) ⟨aR (M.get (ai t.S t.i+0)*t.S.push),aR (M.get (ai t.S t.i+1)*t.S.push)⟩ else aF ⟨(av t.S M t.i).vx,(av t.S M t.i).vy⟩ t.S.g) (aR (1024-t.S.drag))
def eU(t:Stp)(M:MemS):MemS:=if af t.S t.i>=0 then M.set (af t.S t.i+6) 0 else M
def eC(t:Stp)(M:MemS):MemS:=if movP t.S t.i then (M.set (af t.S t.i+2) (aK (gc t M).x (-16384) 16384)).set (af t.S t.i+3) (aK (gc t M).y (-16384) 16384) else M
def ge(t:Stp)(M:MemS):MemS:=if aR (t.i+1)<t.S.nb then M.set 2 (aR (t.i+1)) else (bd t 4 1 M).set 4 0
def dW(t:Stp)(M:MemS):MemS:=ge t (eC t (eU t M))
def mE(M:MemS):Int:=if aR (M.get 5+128)<1024 then aR (M.get 5+128) else 1024
def gL(t:Stp)(M:MemS):V2:=aF ⟨(av t.S M t.i).px,(av t.S M t.i).py⟩ (cK ⟨(av t.S M t.i).vx,(av t.S M t.i).vy⟩ (mE M) 1024)
def cL(t:Stp)(M:MemS):MemS:=dL t (af t.S t.i+1) (af t.S t.i+3) (gL t M).y t.S.box.y0 t.S.box.y1 (dL t (af t.S t.i+0) (af t.S t.i+2) (gL t M).x t.S.box.x0 t.S.box.x1 M)
theorem EA (k:Nat) (hM:MemH mb M (k+8) T) (hS:SetIn F t.S) :aeo 174 #[vP tb 0] (ap [(tb,.lit (Stp.l t mb) 281 (0,0))] [T]) F (λ u H'=>∃x,H'=ap [(tb,.lit (Stp.l t mb) 281 (0,0))] [x]/\(MemH mb (dW t M) k x)):=by
 have hp:=hS.pl;have hn:=hS.nb;have hr:=hS.room;refine QS Tryz.func174 (mc hS.blk mn)<|OU 2<|aap [] []<|ag [] [0,4,1,5,2,6,3,7] (ow 0 17)<|aae [] 8 (λ X_=>(dq t.i hS.toSetN)) ?_;have Y2:=bT hS.toSetN t.i;refine aem [9]<|Q2 1<|aan (σ:=MemS×HL) (λ ⟨oR,Vf⟩=>⟨[(0,vP tb 0)],[(tb,.lit (Stp.l t mb) 281 (0,0))],[Vf],oR=eU t M/\MemH mb oR (k+7) Vf,0⟩) ?_ ?_
 ·intro Vx;refine OU 6<|aaq (af t.S t.i>=0) 19 (λ h3=>?_) λ h3=>?_
  ·refine ah 8 [.o 0,.nw] [aI ((af t.S t.i)+6)] λ _=>aam [] [0] (ar ((af t.S t.i)+6) 0 hM) ?_;rintro _ T4 Ys;refine ae 1 [] λ _=>Vx ((M.set ((af t.S t.i)+6) 0),T4) [0] [0] ?_
   try dsimp only
   refine⟨?_,Ys.weak (by omega)⟩
   first|(simp only[eU,if_pos h3];try rfl;done)|rfl
  ·refine ae 2 [] λ _=>Vx (M,T) [0] [0] ?_
   try dsimp only
   refine⟨?_,hM.weak (by omega)⟩
   first|(simp only[eU,if_neg h3];try rfl;done)|rfl
 ·rintro⟨oR,Vf⟩ ⟨Xz,Vs⟩;refine OU 2<|aan (σ:=MemS×HL) (λ ⟨YY,W5⟩=>⟨[(0,vP tb 0)],[(tb,.lit (Stp.l t mb) 281 (0,0))],[W5],YY=eC t oR/\MemH mb YY (k+5) W5,0⟩) ?_ ?_
  ·intro Yz;refine SO 7 [.o 0]<|aal (lS (t:=t) t.i (tb:=tb) (mb:=mb) (aw 0) hS.up)<|OU 2<|aaq (movP t.S t.i) 32 (λ h7=>?_) λ h7=>?_
   ·have:=movP.has h7;refine SO 8 [.o 0]<|aal (gA (t:=t) (i:=t.i) (tb:=tb) (aw 0) hS.up Vs (ay 0) (movP.has h7))<|ae 5 (ow 0 5) λ n8=>aap [9] []<|ag [] [0,2,1,3,4,5,6] [.o 0,.o 0,.o 1,.o 1]<|aae [] 7 (λ X_=>(fc (⟨(av t.S oR t.i).vx,(av t.S oR t.i).vy⟩:V2) t.S.g))<|aag 8 (aai [] [] λ n9=>?_);refine SV 9 [] (aab 2)<|Q2 3<|aap [] []<|ag [] [0,4,1,5,2,6,3,7] (ow 2 17)<|aae [] 8 (λ X_=>(lQ t.i hS.toSetN)) ?_;have aqu:=lP hS.toSetN t.i;refine aem [9]<|Q2 7<|aaq (ai t.S t.i>=0) 57 (λ IN=>?_) λ IN=>?_
    ·refine OU 2<|aap [] []<|aA [] [0,4,7,11,1,5,8,12,2,9,3,10] [.nw,.nw,.o 2,.o 2] [aI ((ai t.S t.i)+1),aI ((ai t.S t.i)+0)]<|aae [] 6 (λ X_=>(aD ((ai t.S t.i)+0) Vs (aY 0)))<|aae [] 13 (λ X_=>(aD ((ai t.S t.i)+1) Vs (aY 0)))<|aem [14,15]<|Q2 1<|aap [17] []<|ag [] [0,1,2,8,9,3,10,4,11,5,12,6,13,7,14,15] [.o 0,.o 0,.o 2,.o 2]<|aae [] 16 (λ X_=>(fc (aF (⟨(av t.S oR t.i).vx,(av t.S oR t.i).vy⟩:V2) t.S.g) (⟨i64.wrap ((oR.get ((ai t.S t.i)+0))*t.S.push),i64.wrap ((oR.get ((ai t.S t.i)+1))*t.S.push)⟩:V2)))<|SV 17 [] (aab 2)<|Q2 2<|aap [8] []<|ag [] [0,1,2,3,4,5,6] [.o 0,.o 0,.o 2]<|aae [] 7 (λ X_=>(gz (aF (aF (⟨(av t.S oR t.i).vx,(av t.S oR t.i).vy⟩:V2) t.S.g) (⟨i64.wrap ((oR.get ((ai t.S t.i)+0))*t.S.push),i64.wrap ((oR.get ((ai t.S t.i)+1))*t.S.push)⟩:V2)) (i64.wrap (1024-t.S.drag))))<|SV 8 [] (aab 2)<|Q2 2<|aap [] []<|ag [] [0,4,1,5,2,6,3,7] (ow 2 17)<|aae [] 8 (λ X_=>(dq t.i hS.toSetN)) ?_;have ajL:=bT hS.toSetN t.i;refine aem [9]<|Q2 2<|aap [11] []<|aA [] [0,4,6,1,5,7,2,3,9,10] [.nw,.o 0,.o 2] [aI ((af t.S t.i)+2)]<|aae [] 8 (λ X_=>(dP ((au (aF (aF (⟨(av t.S oR t.i).vx,(av t.S oR t.i).vy⟩:V2) t.S.g) (⟨i64.wrap ((oR.get ((ai t.S t.i)+0))*t.S.push),i64.wrap ((oR.get ((ai t.S t.i)+1))*t.S.push)⟩:V2)) (i64.wrap (1024-t.S.drag))).x) (-16384) 16384))<|aag 11 (aah [] [] [0] (ar ((af t.S t.i)+2) (aK ((au (aF (aF (⟨(av t.S oR t.i).vx,(av t.S oR t.i).vy⟩:V2) t.S.g) (⟨i64.wrap ((oR.get ((ai t.S t.i)+0))*t.S.push),i64.wrap ((oR.get ((ai t.S t.i)+1))*t.S.push)⟩:V2)) (i64.wrap (1024-t.S.drag))).x) (-16384) 16384) Vs) ?_);rintro _ WC Vt;refine Q2 1<|aap [11] []<|aA [] [0,4,6,1,5,7,2,3,9,10] [.nw,.o 0,.o 2] [aI ((af t.S t.i)+3)]<|aae [] 8 (λ X_=>(dP ((au (aF (aF (⟨(av t.S oR t.i).vx,(av t.S oR t.i).vy⟩:V2) t.S.g) (⟨i64.wrap ((oR.get ((ai t.S t.i)+0))*t.S.push),i64.wrap ((oR.get ((ai t.S t.i)+1))*t.S.push)⟩:V2)) (i64.wrap (1024-t.S.drag))).y) (-16384) 16384))<|aag 11 (aah [] [] [0] (ar ((af t.S t.i)+3) (aK ((au (aF (aF (⟨(av t.S oR t.i).vx,(av t.S oR t.i).vy⟩:V2) t.S.g) (⟨i64.wrap ((oR.get ((ai t.S t.i)+0))*t.S.push),i64.wrap ((oR.get ((ai t.S t.i)+1))*t.S.push)⟩:V2)) (i64.wrap (1024-t.S.drag))).y) (-16384) 16384) Vt) ?_);rintro _ VN VK;refine aaf<|Yz (((oR.set ((af t.S t.i)+2) (aK ((au (aF (aF (⟨(av t.S oR t.i).vx,(av t.S oR t.i).vy⟩:V2) t.S.g) (⟨i64.wrap ((oR.get ((ai t.S t.i)+0))*t.S.push),i64.wrap ((oR.get ((ai t.S t.i)+1))*t.S.push)⟩:V2)) (i64.wrap (1024-t.S.drag))).x) (-16384) 16384)).set ((af t.S t.i)+3) (aK ((au (aF (aF (⟨(av t.S oR t.i).vx,(av t.S oR t.i).vy⟩:V2) t.S.g) (⟨i64.wrap ((oR.get ((ai t.S t.i)+0))*t.S.push),i64.wrap ((oR.get ((ai t.S t.i)+1))*t.S.push)⟩:V2)) (i64.wrap (1024-t.S.drag))).y) (-16384) 16384)),VN) [2] [0] ?_
     try dsimp only
     refine⟨?_,VK.weak (by omega)⟩
     first|(simp only[eC,gc,if_pos h7,if_pos IN];try rfl;done)|rfl
    ·refine OU 4<|aap [8] []<|ag [] [0,1,2,3,4,5,6] [.o 0,.o 0,.o 2]<|aae [] 7 (λ X_=>(gz (aF (⟨(av t.S oR t.i).vx,(av t.S oR t.i).vy⟩:V2) t.S.g) (i64.wrap (1024-t.S.drag))))<|SV 8 [] (aab 2)<|Q2 2<|aap [] []<|ag [] [0,4,1,5,2,6,3,7] (ow 2 17)<|aae [] 8 (λ X_=>(dq t.i hS.toSetN)) ?_;have aqr:=bT hS.toSetN t.i;refine aem [9]<|Q2 2<|aap [11] []<|aA [] [0,4,6,1,5,7,2,3,9,10] [.nw,.o 0,.o 2] [aI ((af t.S t.i)+2)]<|aae [] 8 (λ X_=>(dP ((au (aF (⟨(av t.S oR t.i).vx,(av t.S oR t.i).vy⟩:V2) t.S.g) (i64.wrap (1024-t.S.drag))).x) (-16384) 16384))<|aag 11 (aah [] [] [0] (ar ((af t.S t.i)+2) (aK ((au (aF (⟨(av t.S oR t.i).vx,(av t.S oR t.i).vy⟩:V2) t.S.g) (i64.wrap (1024-t.S.drag))).x) (-16384) 16384) Vs) ?_);rintro _ T18 ZU;refine Q2 1<|aap [11] []<|aA [] [0,4,6,1,5,7,2,3,9,10] [.nw,.o 0,.o 2] [aI ((af t.S t.i)+3)]<|aae [] 8 (λ X_=>(dP ((au (aF (⟨(av t.S oR t.i).vx,(av t.S oR t.i).vy⟩:V2) t.S.g) (i64.wrap (1024-t.S.drag))).y) (-16384) 16384))<|aag 11 (aah [] [] [0] (ar ((af t.S t.i)+3) (aK ((au (aF (⟨(av t.S oR t.i).vx,(av t.S oR t.i).vy⟩:V2) t.S.g) (i64.wrap (1024-t.S.drag))).y) (-16384) 16384) ZU) ?_);rintro _ YW ZT;refine aaf<|Yz (((oR.set ((af t.S t.i)+2) (aK ((au (aF (⟨(av t.S oR t.i).vx,(av t.S oR t.i).vy⟩:V2) t.S.g) (i64.wrap (1024-t.S.drag))).x) (-16384) 16384)).set ((af t.S t.i)+3) (aK ((au (aF (⟨(av t.S oR t.i).vx,(av t.S oR t.i).vy⟩:V2) t.S.g) (i64.wrap (1024-t.S.drag))).y) (-16384) 16384)),YW) [2] [0] ?_
     try dsimp only
     refine⟨?_,ZT.weak (by omega)⟩
     first|(simp only[eC,gc,if_pos h7,if_neg IN];try rfl;done)|rfl
   ·refine ae 2 [] λ _=>Yz (oR,Vf) [0] [0] ?_
    try dsimp only
    refine⟨?_,Vs.weak (by omega)⟩
    first|(simp only[eC,gc,if_neg h7];try rfl;done)|rfl
  ·rintro⟨YY,W5⟩ ⟨Z0,ZR⟩;refine OU 3<|aap [] []<|ag [] [0,5,1,6,2,7,3,8,4,9,10,11] (aab 2)<|Q2 1<|aaq (i64.wrap (t.i+1)<(t.S.nb:Int)) 141 (λ h22=>?_) λ h22=>?_
   ·refine OU 2<|aap [11] []<|ag [] [0,4,1,5,2,6,3,7,8,9,10] (aab 2)<|aag 11 (aah [] [] [0] (ar 2 (i64.wrap (t.i+1)) ZR) ?_);rintro _ Z2 ado;refine aaf<|ae 1 [] λ _=>?_;have e:(dW t M)=(YY.set 2 (i64.wrap (t.i+1))):=by
     first|(simp only[dW,ge,<- Xz,<- Z0,if_pos h22];try rfl;done)|rfl
    exact aav [] [0] [0] (v:=.tuple #[]) ⟨Z2,rfl,by rw[e];exact ado.weak (by omega)⟩
   ·refine OU 6<|aam [0] [0] (fp t 4 1 tb (k+2) ZR hS.up ) ?_;rintro _ T25 adn;refine SO 7 [.o 0]<|aam [] [0] (ar 4 0 adn) ?_;rintro _ T27 YQ;refine ae 1 [] λ _=>?_;have e:(dW t M)=((bd t 4 1 YY).set 4 0):=by
     first|(simp only[dW,ge,<- Xz,<- Z0,if_neg h22];try rfl;done)|rfl
    exact aav [] [0] [0] (v:=.tuple #[]) ⟨T27,rfl,by rw[e];exact YQ.weak (by omega)⟩
theorem Bf (k:Nat) (hM:MemH mb M (k+4) T) (hS:SetIn F t.S) (hi:movP t.S t.i):aeo 243 #[vP tb 0] (ap [(tb,.lit (Stp.l t mb) 281 (0,0))] [T]) F (λ u H'=>∃x,H'=ap [(tb,.lit (Stp.l t mb) 281 (0,0))] [x]/\(MemH mb (cL t M) k x)):=by
 have hp:=hS.pl;have hn:=hS.nb;have hr:=hS.room;refine QS Tryz.func243 (mc hS.blk mn)<|SO 7 [.o 0]<|aal (gA (t:=t) (i:=t.i) (tb:=tb) (aw 0) hS.up hM (ay 0) (movP.has hi))<|ae 10 (ow 0 5++[.o 1]) λ n1=>aal (aD 5 hM (ay 0))<|OU 6<|aap [8] []<|ag [] [0,2,4,1,3] (aab 4)<|aae [] 5 (λ X_=>(lN (⟨(av t.S M t.i).vx,(av t.S M t.i).vy⟩:V2) (if i64.wrap ((M.get 5)+128)<1024 then i64.wrap ((M.get 5)+128) else 1024) 1024))<|aae [] 6 (λ X_=>(fc (⟨(av t.S M t.i).px,(av t.S M t.i).py⟩:V2) (cK (⟨(av t.S M t.i).vx,(av t.S M t.i).vy⟩:V2) (if i64.wrap ((M.get 5)+128)<1024 then i64.wrap ((M.get 5)+128) else 1024) 1024)))<|aag 7 (aai [] [] λ n2=>?_);refine SV 8 [] (aab 2)<|Q2 2<|aap [16] []<|ag [] [0,4,9,1,5,10,2,6,11,3,7,12,13] (ow 2 21)<|aae [] 8 (λ X_=>(dq t.i hS.toSetN)) ?_;have hb3:=bT hS.toSetN t.i;refine aag 14 (aai [] [] λ n4=>?_);refine aem [15]<|SV 16 [] (aab 4)<|aaf<|ah 14 [.nw,.nw,.o 1,.o 0,.o 0] [aI ((af t.S t.i)+2),aI ((af t.S t.i)+0)] λ _=>aam [3] [0] (us t ((af t.S t.i)+0) ((af t.S t.i)+2) ((aF (⟨(av t.S M t.i).px,(av t.S M t.i).py⟩:V2) (cK (⟨(av t.S M t.i).vx,(av t.S M t.i).vy⟩:V2) (if i64.wrap ((M.get 5)+128)<1024 then i64.wrap ((M.get 5)+128) else 1024) 1024)).x) t.S.box.x0 t.S.box.x1 tb (k+2) hM hS.up ) ?_;rintro _ T5 VJ;refine ah 14 [.nw,.nw,.o 2,.o 1,.o 1] [aI ((af t.S t.i)+3),aI ((af t.S t.i)+1)] λ _=>aam [0] [0] (us t ((af t.S t.i)+1) ((af t.S t.i)+3) ((aF (⟨(av t.S M t.i).px,(av t.S M t.i).py⟩:V2) (cK (⟨(av t.S M t.i).vx,(av t.S M t.i).vy⟩:V2) (if i64.wrap ((M.get 5)+128)<1024 then i64.wrap ((M.get 5)+128) else 1024) 1024)).y) t.S.box.y0 t.S.box.y1 tb k VJ hS.up ) ?_;rintro _ T7 Xd;refine ae 1 [] λ _=>?_;have e:(cL t M)=(dL t ((af t.S t.i)+1) ((af t.S t.i)+3) ((aF (⟨(av t.S M t.i).px,(av t.S M t.i).py⟩:V2) (cK (⟨(av t.S M t.i).vx,(av t.S M t.i).vy⟩:V2) (if i64.wrap ((M.get 5)+128)<1024 then i64.wrap ((M.get 5)+128) else 1024) 1024)).y) t.S.box.y0 t.S.box.y1 (dL t ((af t.S t.i)+0) ((af t.S t.i)+2) ((aF (⟨(av t.S M t.i).px,(av t.S M t.i).py⟩:V2) (cK (⟨(av t.S M t.i).vx,(av t.S M t.i).vy⟩:V2) (if i64.wrap ((M.get 5)+128)<1024 then i64.wrap ((M.get 5)+128) else 1024) 1024)).x) t.S.box.x0 t.S.box.x1 M)):=by
  first|(simp only[cL,gL,mE,if_pos hi];try rfl;done)|rfl
 exact aav [] [0] [0] (v:=.tuple #[]) ⟨T7,rfl,by rw[e];exact Xd.weak (by omega)⟩
theorem ShIn.up{X:HL}(h:ShIn F s):ShIn (X++F) s:=h.mono λ x hx=>aaB _ hx
def isZ(a:V2):Prop:=((decide (a.x=0) && (decide (a.y=0) && true)))=true
instance (a:V2):Decidable (isZ a):=inferInstanceAs (Decidable (_=true))
def iC(a:V2):V2:=if isZ (lm a) then ⟨1024,0⟩ else lm a
def gU(pos ax:V2)(l:List V2):Nat->Int×Int
 |0=>(0,0)
 |k+1=>if (k:Int)=0 then (if cX (aF pos (l.getD k ⟨0,0⟩)) ax<cX (aF pos (l.getD k ⟨0,0⟩)) ax then cX (aF pos (l.getD k ⟨0,0⟩)) ax else cX (aF pos (l.getD k ⟨0,0⟩)) ax,if cX (aF pos (l.getD k ⟨0,0⟩)) ax>cX (aF pos (l.getD k ⟨0,0⟩)) ax then cX (aF pos (l.getD k ⟨0,0⟩)) ax else cX (aF pos (l.getD k ⟨0,0⟩)) ax)
  else (if cX (aF pos (l.getD k ⟨0,0⟩)) ax<(gU pos ax l k).1 then cX (aF pos (l.getD k ⟨0,0⟩)) ax else (gU pos ax l k).1,if cX (aF pos (l.getD k ⟨0,0⟩)) ax>(gU pos ax l k).2 then cX (aF pos (l.getD k ⟨0,0⟩)) ax else (gU pos ax l k).2)
def je(s:Shp)(pos ax:V2):Int×Int:=if ja s then (aR (cX pos ax-s.r),aR (cX pos ax+s.r)) else gU pos ax s.poly s.poly.length
def nP(a:Shp)(pa:V2)(b:Shp)(pb ax:V2):Int:=aR ((if (je b pb ax).2<(je a pa ax).2 then (je b pb ax).2 else (je a pa ax).2)-(if (je b pb ax).1>(je a pa ax).1 then (je b pb ax).1 else (je a pa ax).1))
def QK(off v:V2):Int:=aR (aR ((aF off v).x*(aF off v).x)+aR ((aF off v).y*(aF off v).y))
def fN(off:V2)(l:List V2):Nat->V2×Int
 |0=>(l.getD 0 ⟨0,0⟩,QK off (l.getD 0 ⟨0,0⟩))
 |k+1=>if QK off (l.getD (1+k) ⟨0,0⟩)<(fN off l k).2 then (l.getD (1+k) ⟨0,0⟩,QK off (l.getD (1+k) ⟨0,0⟩)) else fN off l k
def jP(c:V2)(s:Shp)(pos:V2):V2:=aF (bQ pos c) (fN (bQ pos c) s.poly (s.poly.length-1)).1
theorem jf(a:V2):aen 335 #[.agg #[vI a.x,vI a.y]] F (.agg #[vI ((iC a).x),vI ((iC a).y)]):=by
 refine QT Tryz.func335<|ae 10 [.o 1,.o 1] λ n1=>aal (Ep a)<|ae 11 (aab 4++[.sq]) λ n2=>oK ((decide ((lm a).x=0) && (decide ((lm a).y=0) && true))) 8 (λ h3=>?_) λ h3=>?_
 ·refine SO 9 [.o 1,.o 1]<|QV [.o 1,.o 1] [] [] (.agg #[vI 1024,vI 0]) [] ⟨?_,rfl⟩
  first|rw[show iC a=⟨1024,0⟩ from if_pos (by assumption)]|rw[show iC a=lm a from if_neg (by assumption)]
 ·refine SO 7 [.o 0,.o 0,.o 1,.o 1]<|QV [.o 1,.o 1] [] [] (.agg #[vI ((lm a).x),vI ((lm a).y)]) [] ⟨?_,rfl⟩
  first|rw[show iC a=⟨1024,0⟩ from if_pos (by assumption)]|rw[show iC a=lm a from if_neg (by assumption)]
theorem xQ(r:Int)(A:Option Addr)(cap:Nat)(pos ax:V2)(F:HL):aen 338 #[.agg #[vI r,.slice A 0 cap],.agg #[vI pos.x,vI pos.y],.agg #[vI ax.x,vI ax.y]] F (.tuple #[vI (je ⟨r,[],A,cap⟩ pos ax).1,vI (je ⟨r,[],A,cap⟩ pos ax).2]):=by
 refine QT Tryz.func338<|ae 13 [.o 2,.o 2] λ n1=>aal (pz r A 0 cap)<|SO 7 [.o 1,.o 1,.o 0,.o 0]<|aal (oO pos ax)<|OU 4<|aap [] []<|ag [] [0,1,4,5,2,6,3,7,8,9] [.o 2,.o 2]<|aaf<|ae 1 [] λ _=>QW _ _ ⟨rfl,rfl⟩
theorem EB(r:Int){l:List V2}{b:Nat}(pos ax:V2)(hb:(b,.rows 2 cap (jY l) 32 (0,0))∈F)(YI:3<=l.length)(h4:l.length<=cap)(h5:l.length<=1000000):aen 338 #[.agg #[vI r,vS b 0 l.length cap],.agg #[vI pos.x,vI pos.y],.agg #[vI ax.x,vI ax.y]] F (.tuple #[vI (je ⟨r,l,some ⟨b,0,none⟩,cap⟩ pos ax).1,vI (je ⟨r,l,some ⟨b,0,none⟩,cap⟩ pos ax).2]):=by
 refine QU Tryz.func338 hb<|ae 13 [.o 2,.o 2] λ n1=>aal (pz r (some ⟨b,0,none⟩) l.length cap)<|OU 2<|aas 13 (abh (show ¬ ((l.length:Int)=0) by omega))<|SO 13 [.o 2]<|aat (σ:=Nat) (λ k=>⟨[(4,vP (n1+1) 0),(5,vP (n1+2) 0),(6,vI ((gU pos ax l k).1)),(7,vI ((gU pos ax l k).2)),(26,vS b 0 l.length cap),(27,vI (l.length:Int)),(28,vI (k:Int))],[((n1+2),.lit [vI ax.x,vI ax.y] 32 (0,0)),((n1+1),.lit [vI pos.x,vI pos.y] 32 (0,0)),((n1+0),.lit [vI r,vS b 0 l.length cap] 70 (0,0))],[],k<=l.length,l.length-k⟩) 0 [0,1,2] [] (aaJ _) ?_;rintro k Yt OF;refine OU 6<|aaq ((k:Int)<(l.length:Int)) 29 (λ h4=>?_) λ h4=>?_
 ·refine ah 16 [.ix k,.rorow 0 k 0,.rorow 0 k 1,.o 0,.o 0] [((0+k*2)+1)=k*2+1/\k<cap,(0+k*2)=k*2+0/\k<cap,(k:Int)=((k:Nat):Int)/\k<l.length] λ n5=>aap [] []<|ag [] [0,1,3] [.o 2,.o 2,.o 0,.o 0,.o 1,.o 1]<|aae [] 2 (λ X_=>(fc pos (l.getD k ⟨0,0⟩)))<|aae [] 4 (λ X_=>(oO (aF pos (l.getD k ⟨0,0⟩)) ax))<|aem [5]<|Q2 8<|aaq ((k:Int)=0) 39 (λ h6=>?_) λ h6=>?_
  ·refine ah 24 [.nw] [aI ((k:Int)+1)] λ _=>?_;have e_:gU pos ax l (k+1)=(if cX (aF pos (l.getD k ⟨0,0⟩)) ax<cX (aF pos (l.getD k ⟨0,0⟩)) ax then cX (aF pos (l.getD k ⟨0,0⟩)) ax else cX (aF pos (l.getD k ⟨0,0⟩)) ax,if cX (aF pos (l.getD k ⟨0,0⟩)) ax>cX (aF pos (l.getD k ⟨0,0⟩)) ax then cX (aF pos (l.getD k ⟨0,0⟩)) ax else cX (aF pos (l.getD k ⟨0,0⟩)) ax):=by
    rw[gU,if_pos h6]
   refine aM 6 (congrArg (λ v_=>(vI v_:Value)) (congrArg Prod.fst e_).symm)<|aM 7 (congrArg (λ v_=>(vI v_:Value)) (congrArg Prod.snd e_).symm)<|OF (k+1) [1,2,3] [] ?_
   try dsimp only
   exact⟨by omega,by omega⟩
  ·refine ah 19 [.nw] [aI ((k:Int)+1)] λ _=>?_;have e_:gU pos ax l (k+1)=(if cX (aF pos (l.getD k ⟨0,0⟩)) ax<(gU pos ax l k).1 then cX (aF pos (l.getD k ⟨0,0⟩)) ax else (gU pos ax l k).1,if cX (aF pos (l.getD k ⟨0,0⟩)) ax>(gU pos ax l k).2 then cX (aF pos (l.getD k ⟨0,0⟩)) ax else (gU pos ax l k).2):=by
    rw[gU,if_neg h6]
   refine aM 6 (congrArg (λ v_=>(vI v_:Value)) (congrArg Prod.fst e_).symm)<|aM 7 (congrArg (λ v_=>(vI v_:Value)) (congrArg Prod.snd e_).symm)<|OF (k+1) [1,2,3] [] ?_
   try dsimp only
   exact⟨by omega,by omega⟩
 ·refine OU 14<|QW (.tuple #[vI ((gU pos ax l k).1),vI ((gU pos ax l k).2)]) [] ?_;have ek:k=l.length:=by omega
  subst ek;refine⟨?_,rfl⟩;unfold je;rw[if_neg (by intro e;simp[ja] at e;rw[e] at YI;simp at YI)]
theorem xS(h:ShIn F s):aen 338 #[LT s,.agg #[vI pos.x,vI pos.y],.agg #[vI ax.x,vI ax.y]] F (.tuple #[vI (je s pos ax).1,vI (je s pos ax).2]):=by
 cases h with
 |circle r A cap=>exact xQ r A cap pos ax F
 |poly r l b cap h h3 h4 h5=>exact EB r pos ax h h3 h4 h5
theorem EC(ha:ShIn F a)(hb:ShIn F b):aen 309 #[.agg #[vI a.r,.slice a.A a.poly.length a.cap],.agg #[vI pa.x,vI pa.y],.agg #[vI b.r,.slice b.A b.poly.length b.cap],.agg #[vI pb.x,vI pb.y],.agg #[vI ax.x,vI ax.y]] F (vI (nP a pa b pb ax)):=by
 refine QT Tryz.func309<|ae 15 [.o 4,.o 4,.o 3,.o 3,.o 0,.o 0] λ n1=>aal (xS pa ax (ha.up))<|SO 12 [.o 2,.o 2,.o 1,.o 1,.o 0,.o 0]<|aal (xS pb ax (hb.up))<|ae 19 [] λ _=>QW _ _ ⟨rfl,rfl⟩
theorem CS(v off:V2)(hq:(q,.lit [vI off.x,vI off.y] 32 (0,0))∈F):aen 372 #[.agg #[vI v.x,vI v.y],vP q 0] F (vI (QK off v)):=by
 refine QU Tryz.func372 hq<|ae 10 [.ro 0,.ro 0,.o 0,.o 0] λ n1=>aal (fc off v)<|ae 20 (ow 0 6) λ n2=>QW _ _ ⟨rfl,rfl⟩
theorem ED{l:List V2}{b:Nat}(hb:(b,.rows 2 cap (jY l) 32 (0,0))∈F)(h3:3<=l.length)(h4:l.length<=cap)(h5:l.length<=1000000)(hq:(q,.lit [vI off.x,vI off.y] 32 (0,0))∈F):aen 371 #[vS b 0 l.length cap,.func (.func 372) #[] #[vP q 0]] F (.agg #[vI (((fN off l (l.length-1)).1).x),vI (((fN off l (l.length-1)).1).y)]):=by
 refine rI Tryz.func371 (mc hb (mc hq mn)) [] []<|ae 6 [] λ n1=>aap [9] [0]<|aA [0] [0,3,4,1,5,2,6] [.ix 0,.ix 0,.rorow 0 0 0,.rorow 0 0 1,.rorow 0 0 0,.rorow 0 0 1] [((0+0*2)+1)=0*2+1/\0<cap,(0+0*2)=0*2+0/\0<cap,((0+0*2)+1)=0*2+1/\0<cap,(0+0*2)=0*2+0/\0<cap,0=((0:Nat):Int)/\0<l.length,0=((0:Nat):Int)/\0<l.length]<|aae [0] 7 (λ X_=>(CS (l.getD 0 ⟨0,0⟩) off (aaB _ (aaB _ hq))))<|aag 8 (aai [] [] λ n3=>?_);refine SV 9 [1] (aab 2)<|ag [1] [10] []<|aaf<|ah 11 [.sl 1 l.length false] [1=((1:Nat):Int)/\l.length=l.length/\1<=l.length/\l.length<=cap/\cap≠1] λ _=>aat (σ:=Nat) (λ k=>⟨[(1,.func (.func 372) #[] #[vP q 0]),(4,vP (n1+0) 0),(5,vP (n3+0) 0),(6,vI ((fN off l k).2)),(19,vS b 2 (l.length-1) (cap-1)),(20,vI (((l.length-1):Nat):Int)),(21,vI (k:Int))],[((n3+0),.lit [vI ((fN off l k).1.x),vI ((fN off l k).1.y)] 32 (0,0)),((n1+0),.lit [vI 0,vI 0] 32 (0,0))],[],k<=l.length-1,l.length-k⟩) 0 [0,1] [] (aaJ _) ?_;rintro k hI4 W9;refine OU 6<|aaq ((k:Int)<(((l.length-1):Nat):Int)) 22 (λ h6=>?_) λ h6=>?_
 ·refine ah 17 [.ix k,.rorow 0 (1+k) 0,.rorow 0 (1+k) 1,.o 0,.o 0,.o 0,.o 0] [((2+k*2)+1)=(1+k)*2+1/\(1+k)<cap,(2+k*2)=(1+k)*2+0/\(1+k)<cap,(k:Int)=((k:Nat):Int)/\k<(l.length-1)] λ n7=>aal (CS (l.getD (1+k) ⟨0,0⟩) off (aaB _ hq))<|OU 10<|aaq (QK off (l.getD (1+k) ⟨0,0⟩)<(fN off l k).2) 30 (λ h8=>?_) λ h8=>?_
  ·refine ah 13 [.o 0,.o 0,.o 1,.o 1,.nw] [aI ((k:Int)+1)] λ _=>?_;have e_:fN off l (k+1)=(l.getD (1+k) ⟨0,0⟩,QK off (l.getD (1+k) ⟨0,0⟩)):=by rw[fN,if_pos h8]
   refine aM 6 (congrArg (λ v_=>(vI v_:Value)) (congrArg Prod.snd e_).symm)<|aak 1 (congrArg (λ v_=>(.lit [vI v_.1.x,vI v_.1.y] 32 (0,0):Blk)) e_.symm)<|W9 (k+1) [1,2] [] ?_
   try dsimp only
   exact⟨by omega,by omega⟩
  ·refine ah 8 [.nw] [aI ((k:Int)+1)] λ _=>?_;have e_:fN off l (k+1)=fN off l k:=by rw[fN,if_neg h8]
   refine aM 6 (congrArg (λ v_=>(vI v_:Value)) (congrArg Prod.snd e_).symm)<|aak 1 (congrArg (λ v_=>(.lit [vI v_.1.x,vI v_.1.y] 32 (0,0):Blk)) e_.symm)<|W9 (k+1) [1,2] [] ?_
   try dsimp only
   exact⟨by omega,by omega⟩
 ·refine ae 12 [.o 0,.o 0,.o 1,.o 1] λ _=>?_;have ek:k=l.length-1:=by omega
  subst ek;exact aav [.o 1,.o 1] [] [] ⟨rfl,rfl⟩
def qn(l:List V2)(k:Nat):V2:=iC ⟨aR ((l.getD (((k:Int)+1)%(l.length:Int)).toNat ⟨0,0⟩).y-(l.getD k ⟨0,0⟩).y),aR ((l.getD k ⟨0,0⟩).x-(l.getD (((k:Int)+1)%(l.length:Int)).toNat ⟨0,0⟩).x)⟩
def pB(l:List V2):List V2:=(List.range l.length).map (qn l)
def lU(a:Shp)(pa:V2)(b:Shp)(pb:V2):List V2:=if ja a then if ja b then [iC (bQ pb pa)] else [iC (jP pa b pb)] else if ja b then [iC (jP pb a pa)] else []
def aH(a:Shp)(pa:V2)(b:Shp)(pb:V2):List V2:=pB a.poly++(pB b.poly++lU a pa b pb)
theorem dX(l:List V2):(pB l).length=l.length:=by simp[pB]
theorem rU{l:List V2}(h:k<l.length):(pB l)[k]?=some (qn l k):=by simp[pB,h]
theorem HD{pa:V2}{pb:V2}(h:k<a.poly.length):(aH a pa b pb)[k]?=some (qn a.poly k):=by
 unfold aH;rw[aaQ (by rw[dX];exact h),rU h]
theorem HE{pa:V2}{pb:V2}(h:k<b.poly.length):(aH a pa b pb)[a.poly.length+k]?=some (qn b.poly k):=by
 unfold aH;rw[aaR (by rw[dX];omega),dX,adE,aaQ (by rw[dX];exact h),rU h]
theorem Bg{pa:V2}{pb x:V2}(h:lU a pa b pb=[x]):(aH a pa b pb)[a.poly.length+b.poly.length]?=some x:=by
 unfold aH;rw[aaR (by rw[dX];omega),dX,adE,aaR (by rw[dX];omega),dX,aej,h];rfl
theorem oQ{pa:V2}{pb:V2}{m:Nat}(h:(lU a pa b pb).length=m):(aH a pa b pb).length=a.poly.length+b.poly.length+m:=by
 unfold aH;rw[aaK,aaK,dX,dX,h];omega
theorem br:ap [] [T]=T:=by simp
abbrev HF(x:V2):Array Value:=#[.agg #[vI x.x,vI x.y]]
theorem qo(c:V2)(r:Int){l:List V2}{b:Nat}(pos:V2)(hb:(b,.rows 2 cap (jY l) 32 (0,0))∈F)(YI:3<=l.length)(h4:l.length<=cap)(h5:l.length<=1000000):aen 337 #[.agg #[vI c.x,vI c.y],.agg #[vI r,vS b 0 l.length cap],.agg #[vI pos.x,vI pos.y]] F (.agg #[vI ((jP c ⟨r,l,some ⟨b,0,none⟩,cap⟩ pos).x),vI ((jP c ⟨r,l,some ⟨b,0,none⟩,cap⟩ pos).y)]):=by
 refine QU Tryz.func337 hb<|ae 12 [.o 1,.o 1,.o 3,.o 3] λ n1=>aal (i9 pos c)<|ae 9 [.o 0,.o 0,.o 3] λ n2=>aal (ED (l:=l) (b:=b) (bQ pos c) (q:=n2+0) (aaB _ hb) YI h4 h5 (aw 0))<|ae 8 [.o 0,.o 0,.o 1,.o 1,.o 0,.o 0] λ n3=>aal (fc (bQ pos c) ((fN (bQ pos c) l (l.length-1)).1))<|ae 3 [.o 2,.o 2] λ _=>aav [.o 2,.o 2] [] [] ⟨rfl,rfl⟩
theorem Md{ca:Nat}{q1 q2 q3 q4:Nat} (lp:Nat)(X:HL)(Jx:HL->Prop)(Yk:(q1,.lit [vI ra,.slice Aa 0 ca] 70 (0,0))∈F)(Vh:(q2,.lit [vI rb,.slice Ab 0 cb] 70 (0,0))∈F)(Yj:(q3,.lit [vI pb.x,vI pb.y] 32 (0,0))∈F)(X2:(q4,.lit [vI pa.x,vI pa.y] 32 (0,0))∈F)(hY:∀i x H Y,(aH (⟨ra,[],Aa,ca⟩:Shp) pa (⟨rb,[],Ab,cb⟩:Shp) pb)[i]?=some x->J i H->YL Tryz.prog lp (HF x) H (Y++(X++F)) (λ b H'=>(b=true/\J (i+1) H')\/(b=false/\Jx H')))(XM:J 0 T0):aeo 334 #[.func (.yield lp) #[] #[],vP q1 0,vP q2 0,vP q3 0,vP q4 0] (ap [] [T0]) (X++F) (λ _ H'=>J (aH (⟨ra,[],Aa,ca⟩:Shp) pa (⟨rb,[],Ab,cb⟩:Shp) pb).length H'\/Jx H'):=by
 have hca:ja (⟨ra,[],Aa,ca⟩:Shp):=rfl;have hcb:ja (⟨rb,[],Ab,cb⟩:Shp):=rfl;have R_:lU (⟨ra,[],Aa,ca⟩:Shp) pa (⟨rb,[],Ab,cb⟩:Shp) pb=[iC (bQ pb pa)]:=by simp only[lU,if_pos hca,if_pos hcb]
 have hlen:(aH (⟨ra,[],Aa,ca⟩:Shp) pa (⟨rb,[],Ab,cb⟩:Shp) pb).length=([]:List V2).length+([]:List V2).length+1:=oQ (by rw[R_];rfl);refine QS Tryz.func334 (mc (aaB X Yk) (mc (aaB X Vh) (mc (aaB X Yj) (mc (aaB X X2) mn))))<|SO 12 [.ro 0,.ro 1]<|aaw 2<|OU 25<|aaw 1<|OU 43<|aaw 1<|SO 34 [.ro 0,.ro 0]<|aal (jb ra Aa 0 ca)<|SO 2 [.ro 1,.ro 1]<|aal (jb rb Ab 0 cb)<|SO 9 [.ro 2,.ro 2,.ro 3,.ro 3]<|aal (i9 pb pa)<|aal (jf (bQ pb pa))<|aax 0 (hY 0 (iC (bQ pb pa)) _ _ (Bg R_) XM) ?_;rintro b_ T1 (⟨rfl,hJ2⟩|⟨rfl,hJ2⟩)
 ·refine OU 2<|QV [] [] [0] (.tuple #[]) (ap [] [T1]) ?_;rw[br];exact .inl (by rw[hlen];exact hJ2)
 ·refine OU 2<|QV [] [] [0] (.tuple #[]) (ap [] [T1]) ?_;rw[br];exact .inr hJ2
theorem Me{ca:Nat}{q1 q2 q3 q4:Nat} (lp:Nat)(X:HL)(Jx:HL->Prop)(Yk:(q1,.lit [vI ra,.slice Aa 0 ca] 70 (0,0))∈F)(Vh:(q2,.lit [vI rb,vS bb 0 lb.length cb] 70 (0,0))∈F)(Yj:(q3,.lit [vI pb.x,vI pb.y] 32 (0,0))∈F)(X2:(q4,.lit [vI pa.x,vI pa.y] 32 (0,0))∈F)(hbb:(bb,.rows 2 cb (jY lb) 32 (0,0))∈F)(h3b:3<=lb.length)(h4b:lb.length<=cb)(h5b:lb.length<=1000000)(hY:∀i x H Y,(aH (⟨ra,[],Aa,ca⟩:Shp) pa (⟨rb,lb,some ⟨bb,0,none⟩,cb⟩:Shp) pb)[i]?=some x->J i H->YL Tryz.prog lp (HF x) H (Y++(X++F)) (λ b H'=>(b=true/\J (i+1) H')\/(b=false/\Jx H')))(XM:J 0 T0):aeo 334 #[.func (.yield lp) #[] #[],vP q1 0,vP q2 0,vP q3 0,vP q4 0] (ap [] [T0]) (X++F) (λ _ H'=>J (aH (⟨ra,[],Aa,ca⟩:Shp) pa (⟨rb,lb,some ⟨bb,0,none⟩,cb⟩:Shp) pb).length H'\/Jx H'):=by
 have hca:ja (⟨ra,[],Aa,ca⟩:Shp):=rfl;have hcb:¬ ja (⟨rb,lb,some ⟨bb,0,none⟩,cb⟩:Shp):=by intro e;simp[ja] at e;subst e;simp at h3b
 have R_:lU (⟨ra,[],Aa,ca⟩:Shp) pa (⟨rb,lb,some ⟨bb,0,none⟩,cb⟩:Shp) pb=[iC (jP pa (⟨rb,lb,some ⟨bb,0,none⟩,cb⟩:Shp) pb)]:=by simp only[lU,if_pos hca,if_neg hcb]
 have hlen:(aH (⟨ra,[],Aa,ca⟩:Shp) pa (⟨rb,lb,some ⟨bb,0,none⟩,cb⟩:Shp) pb).length=([]:List V2).length+lb.length+1:=oQ (by rw[R_];rfl);refine QS Tryz.func334 (mc (aaB X Yk) (mc (aaB X Vh) (mc (aaB X Yj) (mc (aaB X X2) (mc (aaB X hbb) mn)))))<|SO 12 [.ro 0,.ro 1]<|aaw 2<|OU 25<|aaw 1<|OU 43<|aat (σ:=Nat×HL) (λ ⟨k,T_⟩=>⟨[(0,.func (.yield lp) #[] #[]),(1,vP q1 0),(2,vP q2 0),(3,vP q3 0),(4,vP q4 0),(7,vS bb 0 lb.length cb),(15,.agg #[.slice Aa 0 ca,vS bb 0 lb.length cb]),(16,vI 1),(19,vS bb 0 lb.length cb),(20,vI (lb.length:Int)),(21,vI (k:Int))],[],[T_],k<=lb.length/\J (([]:List V2).length+k) T_,lb.length-k⟩) (0,T0) [] [0] (⟨aaJ _,XM⟩) ?_;rintro⟨k,T_⟩ ⟨YJ,VC⟩ Vx
 skip
 refine OU 6<|aaq ((k:Int)<(lb.length:Int)) 22 (λ h3=>?_) λ h3=>?_
 ·refine ah 22 [.ix k,.rorow 4 k 0,.rorow 4 k 1,.o 0,.o 0,.nw] [aI ((k:Int)+1),((0+k*2)+1)=k*2+1/\k<cb,(0+k*2)=k*2+0/\k<cb,(k:Int)=((k:Nat):Int)/\k<lb.length] λ n4=>?_;have hm1:=acy ((k:Int)+1) (show (lb.length:Int)≠0 by omega);have hm2:=aca ((k:Int)+1) (show (0:Int)<lb.length by omega);refine ah 21 [.nw,.ix ((((k:Int)+1)%(lb.length:Int)).toNat),.rorow 4 ((((k:Int)+1)%(lb.length:Int)).toNat) 0,.rorow 4 ((((k:Int)+1)%(lb.length:Int)).toNat) 1,.o 0,.o 0,.o 0,.o 1,.o 1,.o 0] [((0+((((k:Int)+1)%(lb.length:Int)).toNat)*2)+1)=((((k:Int)+1)%(lb.length:Int)).toNat)*2+1/\((((k:Int)+1)%(lb.length:Int)).toNat)<cb,(0+((((k:Int)+1)%(lb.length:Int)).toNat)*2)=((((k:Int)+1)%(lb.length:Int)).toNat)*2+0/\((((k:Int)+1)%(lb.length:Int)).toNat)<cb,((k:Int)+1)%(lb.length:Int)=(((((k:Int)+1)%(lb.length:Int)).toNat:Nat):Int)/\(((k:Int)+1)%(lb.length:Int)).toNat<lb.length,0<=(k:Int)+1/\(0:Int)<(lb.length:Int)/\(k:Int)+1<=9223372036854775807] λ n5=>aal (jf (⟨i64.wrap (((lb.getD ((((k:Int)+1)%(lb.length:Int)).toNat) ⟨0,0⟩).y)-((lb.getD k ⟨0,0⟩).y)),i64.wrap (((lb.getD k ⟨0,0⟩).x)-((lb.getD ((((k:Int)+1)%(lb.length:Int)).toNat) ⟨0,0⟩).x))⟩:V2))<|aax 0 (hY (([]:List V2).length+k) (qn lb k) _ _ (HE (a:=(⟨ra,[],Aa,ca⟩:Shp)) (by show k<lb.length;omega)) VC) ?_;rintro b_ T6 (⟨rfl,ZX⟩|⟨rfl,ZX⟩)
  ·refine ah 11 [.gen,.nw] [aI ((k:Int)+1)] λ _=>Vx (k+1,T6) [] [0] ?_
   try dsimp only
   exact⟨⟨by omega,ZX⟩,by omega⟩
  ·refine OU 4<|QV [] [] [0] (.tuple #[]) (ap [] [T6]) ?_;rw[br];exact .inr ZX
 ·have ek1:k=lb.length:=by omega
  subst ek1;refine SO 28 [.ro 0,.ro 0]<|aal (jb ra Aa 0 ca)<|SO 2 [.ro 1,.ro 1]<|aal (jb rb (some ⟨bb,0,none⟩) lb.length cb)<|OU 4<|aas 51 (abh (show ¬ ((lb.length:Int)=0) by omega))<|SO 4 [.ro 0,.ro 0]<|aal (jb ra Aa 0 ca)<|SO 9 [.ro 3,.ro 3,.ro 1,.ro 1,.ro 2,.ro 2]<|aal (qo pa rb pb (aaB _ (aaB X hbb)) h3b h4b h5b)<|aal (jf (jP pa (⟨rb,lb,some ⟨bb,0,none⟩,cb⟩:Shp) pb))<|aax 0 (hY (([]:List V2).length+lb.length) (iC (jP pa (⟨rb,lb,some ⟨bb,0,none⟩,cb⟩:Shp) pb)) _ _ (Bg R_) VC) ?_;rintro b_ T8 (⟨rfl,ZW⟩|⟨rfl,ZW⟩)
  ·refine OU 2<|QV [] [] [0] (.tuple #[]) (ap [] [T8]) ?_;rw[br];exact .inl (by rw[hlen];exact ZW)
  ·refine OU 2<|QV [] [] [0] (.tuple #[]) (ap [] [T8]) ?_;rw[br];exact .inr ZW
theorem Mf{ca:Nat}{q1 q2 q3 q4:Nat} (lp:Nat)(X:HL)(Jx:HL->Prop)(Yk:(q1,.lit [vI ra,vS ba 0 la.length ca] 70 (0,0))∈F)(Vh:(q2,.lit [vI rb,.slice Ab 0 cb] 70 (0,0))∈F)(Yj:(q3,.lit [vI pb.x,vI pb.y] 32 (0,0))∈F)(X2:(q4,.lit [vI pa.x,vI pa.y] 32 (0,0))∈F)(hba:(ba,.rows 2 ca (jY la) 32 (0,0))∈F)(h3a:3<=la.length)(h4a:la.length<=ca)(h5a:la.length<=1000000)(hY:∀i x H Y,(aH (⟨ra,la,some ⟨ba,0,none⟩,ca⟩:Shp) pa (⟨rb,[],Ab,cb⟩:Shp) pb)[i]?=some x->J i H->YL Tryz.prog lp (HF x) H (Y++(X++F)) (λ b H'=>(b=true/\J (i+1) H')\/(b=false/\Jx H')))(XM:J 0 T0):aeo 334 #[.func (.yield lp) #[] #[],vP q1 0,vP q2 0,vP q3 0,vP q4 0] (ap [] [T0]) (X++F) (λ _ H'=>J (aH (⟨ra,la,some ⟨ba,0,none⟩,ca⟩:Shp) pa (⟨rb,[],Ab,cb⟩:Shp) pb).length H'\/Jx H'):=by
 have hca:¬ ja (⟨ra,la,some ⟨ba,0,none⟩,ca⟩:Shp):=by intro e;simp[ja] at e;subst e;simp at h3a
 have hcb:ja (⟨rb,[],Ab,cb⟩:Shp):=rfl;have R_:lU (⟨ra,la,some ⟨ba,0,none⟩,ca⟩:Shp) pa (⟨rb,[],Ab,cb⟩:Shp) pb=[iC (jP pb (⟨ra,la,some ⟨ba,0,none⟩,ca⟩:Shp) pa)]:=by simp only[lU,if_neg hca,if_pos hcb]
 have hlen:(aH (⟨ra,la,some ⟨ba,0,none⟩,ca⟩:Shp) pa (⟨rb,[],Ab,cb⟩:Shp) pb).length=la.length+([]:List V2).length+1:=oQ (by rw[R_];rfl);refine QS Tryz.func334 (mc (aaB X Yk) (mc (aaB X Vh) (mc (aaB X Yj) (mc (aaB X X2) (mc (aaB X hba) mn)))))<|SO 12 [.ro 0,.ro 1]<|aaw 2<|OU 25<|aat (σ:=Nat×HL) (λ ⟨k,T_⟩=>⟨[(0,.func (.yield lp) #[] #[]),(1,vP q1 0),(2,vP q2 0),(3,vP q3 0),(4,vP q4 0),(7,vS ba 0 la.length ca),(15,.agg #[vS ba 0 la.length ca,.slice Ab 0 cb]),(16,vI 0),(19,vS ba 0 la.length ca),(20,vI (la.length:Int)),(21,vI (k:Int))],[],[T_],k<=la.length/\J (k) T_,la.length-k⟩) (0,T0) [] [0] (⟨aaJ _,XM⟩) ?_;rintro⟨k,T_⟩ ⟨YJ,VC⟩ Vx
 skip
 refine OU 6<|aaq ((k:Int)<(la.length:Int)) 22 (λ h3=>?_) λ h3=>?_
 ·refine ah 22 [.ix k,.rorow 4 k 0,.rorow 4 k 1,.o 0,.o 0,.nw] [aI ((k:Int)+1),((0+k*2)+1)=k*2+1/\k<ca,(0+k*2)=k*2+0/\k<ca,(k:Int)=((k:Nat):Int)/\k<la.length] λ n4=>?_;have hm1:=acy ((k:Int)+1) (show (la.length:Int)≠0 by omega);have hm2:=aca ((k:Int)+1) (show (0:Int)<la.length by omega);refine ah 21 [.nw,.ix ((((k:Int)+1)%(la.length:Int)).toNat),.rorow 4 ((((k:Int)+1)%(la.length:Int)).toNat) 0,.rorow 4 ((((k:Int)+1)%(la.length:Int)).toNat) 1,.o 0,.o 0,.o 0,.o 1,.o 1,.o 0] [((0+((((k:Int)+1)%(la.length:Int)).toNat)*2)+1)=((((k:Int)+1)%(la.length:Int)).toNat)*2+1/\((((k:Int)+1)%(la.length:Int)).toNat)<ca,(0+((((k:Int)+1)%(la.length:Int)).toNat)*2)=((((k:Int)+1)%(la.length:Int)).toNat)*2+0/\((((k:Int)+1)%(la.length:Int)).toNat)<ca,((k:Int)+1)%(la.length:Int)=(((((k:Int)+1)%(la.length:Int)).toNat:Nat):Int)/\(((k:Int)+1)%(la.length:Int)).toNat<la.length,0<=(k:Int)+1/\(0:Int)<(la.length:Int)/\(k:Int)+1<=9223372036854775807] λ n5=>aal (jf (⟨i64.wrap (((la.getD ((((k:Int)+1)%(la.length:Int)).toNat) ⟨0,0⟩).y)-((la.getD k ⟨0,0⟩).y)),i64.wrap (((la.getD k ⟨0,0⟩).x)-((la.getD ((((k:Int)+1)%(la.length:Int)).toNat) ⟨0,0⟩).x))⟩:V2))<|aax 0 (hY k (qn la k) _ _ (HD (by show k<la.length;omega)) VC) ?_;rintro b_ T6 (⟨rfl,ZX⟩|⟨rfl,ZX⟩)
  ·refine ah 11 [.gen,.nw] [aI ((k:Int)+1)] λ _=>Vx (k+1,T6) [] [0] ?_
   try dsimp only
   exact⟨⟨by omega,ZX⟩,by omega⟩
  ·refine OU 4<|QV [] [] [0] (.tuple #[]) (ap [] [T6]) ?_;rw[br];exact .inr ZX
 ·have ek0:k=la.length:=by omega
  subst ek0;refine OU 37<|aaw 1<|SO 34 [.ro 0,.ro 0]<|aal (jb ra (some ⟨ba,0,none⟩) la.length ca)<|OU 1<|aas 54 (abh (show ¬ ((la.length:Int)=0) by omega))<|SO 10 [.ro 0,.ro 0]<|aal (jb ra (some ⟨ba,0,none⟩) la.length ca)<|OU 3<|aas 64 (abh (show ¬ ((la.length:Int)=0) by omega))<|SO 4 [.ro 1,.ro 1]<|aal (jb rb Ab 0 cb)<|ae 9 [.ro 2,.ro 2,.ro 0,.ro 0,.ro 3,.ro 3] λ _=>aal (qo pb ra pa (aaB _ (aaB X hba)) h3a h4a h5a)<|aal (jf (jP pb (⟨ra,la,some ⟨ba,0,none⟩,ca⟩:Shp) pa))<|aax 0 (hY la.length (iC (jP pb (⟨ra,la,some ⟨ba,0,none⟩,ca⟩:Shp) pa)) _ _ (Bg R_) VC) ?_;rintro b_ T8 (⟨rfl,ZW⟩|⟨rfl,ZW⟩)
  ·refine OU 2<|QV [] [] [0] (.tuple #[]) (ap [] [T8]) ?_;rw[br];exact .inl (by rw[hlen];exact ZW)
  ·refine OU 2<|QV [] [] [0] (.tuple #[]) (ap [] [T8]) ?_;rw[br];exact .inr ZW
theorem Mg{ca:Nat}{q1 q2 q3 q4:Nat} (lp:Nat)(X:HL)(Jx:HL->Prop)(Yk:(q1,.lit [vI ra,vS ba 0 la.length ca] 70 (0,0))∈F)(Vh:(q2,.lit [vI rb,vS bb 0 lb.length cb] 70 (0,0))∈F)(Yj:(q3,.lit [vI pb.x,vI pb.y] 32 (0,0))∈F)(X2:(q4,.lit [vI pa.x,vI pa.y] 32 (0,0))∈F)(hba:(ba,.rows 2 ca (jY la) 32 (0,0))∈F)(h3a:3<=la.length)(h4a:la.length<=ca)(h5a:la.length<=1000000)(hbb:(bb,.rows 2 cb (jY lb) 32 (0,0))∈F)(h3b:3<=lb.length)(h4b:lb.length<=cb)(h5b:lb.length<=1000000)(hY:∀i x H Y,(aH (⟨ra,la,some ⟨ba,0,none⟩,ca⟩:Shp) pa (⟨rb,lb,some ⟨bb,0,none⟩,cb⟩:Shp) pb)[i]?=some x->J i H->YL Tryz.prog lp (HF x) H (Y++(X++F)) (λ b H'=>(b=true/\J (i+1) H')\/(b=false/\Jx H')))(XM:J 0 T0):aeo 334 #[.func (.yield lp) #[] #[],vP q1 0,vP q2 0,vP q3 0,vP q4 0] (ap [] [T0]) (X++F) (λ _ H'=>J (aH (⟨ra,la,some ⟨ba,0,none⟩,ca⟩:Shp) pa (⟨rb,lb,some ⟨bb,0,none⟩,cb⟩:Shp) pb).length H'\/Jx H'):=by
 have hca:¬ ja (⟨ra,la,some ⟨ba,0,none⟩,ca⟩:Shp):=by intro e;simp[ja] at e;subst e;simp at h3a
 have hcb:¬ ja (⟨rb,lb,some ⟨bb,0,none⟩,cb⟩:Shp):=by intro e;simp[ja] at e;subst e;simp at h3b
 have R_:lU (⟨ra,la,some ⟨ba,0,none⟩,ca⟩:Shp) pa (⟨rb,lb,some ⟨bb,0,none⟩,cb⟩:Shp) pb=[]:=by simp only[lU,if_neg hca,if_neg hcb]
 have hlen:(aH (⟨ra,la,some ⟨ba,0,none⟩,ca⟩:Shp) pa (⟨rb,lb,some ⟨bb,0,none⟩,cb⟩:Shp) pb).length=la.length+lb.length+0:=oQ (by rw[R_];rfl);refine QS Tryz.func334 (mc (aaB X Yk) (mc (aaB X Vh) (mc (aaB X Yj) (mc (aaB X X2) (mc (aaB X hba) (mc (aaB X hbb) mn))))))<|SO 12 [.ro 0,.ro 1]<|aaw 2<|OU 25<|aat (σ:=Nat×HL) (λ ⟨k,T_⟩=>⟨[(0,.func (.yield lp) #[] #[]),(1,vP q1 0),(2,vP q2 0),(3,vP q3 0),(4,vP q4 0),(7,vS ba 0 la.length ca),(15,.agg #[vS ba 0 la.length ca,vS bb 0 lb.length cb]),(16,vI 0),(19,vS ba 0 la.length ca),(20,vI (la.length:Int)),(21,vI (k:Int))],[],[T_],k<=la.length/\J (k) T_,la.length-k⟩) (0,T0) [] [0] (⟨aaJ _,XM⟩) ?_;rintro⟨k,T_⟩ ⟨YJ,VC⟩ Vx
 skip
 refine OU 6<|aaq ((k:Int)<(la.length:Int)) 22 (λ h3=>?_) λ h3=>?_
 ·refine ah 22 [.ix k,.rorow 4 k 0,.rorow 4 k 1,.o 0,.o 0,.nw] [aI ((k:Int)+1),((0+k*2)+1)=k*2+1/\k<ca,(0+k*2)=k*2+0/\k<ca,(k:Int)=((k:Nat):Int)/\k<la.length] λ n4=>?_;have hm1:=acy ((k:Int)+1) (show (la.length:Int)≠0 by omega);have hm2:=aca ((k:Int)+1) (show (0:Int)<la.length by omega);refine ah 21 [.nw,.ix ((((k:Int)+1)%(la.length:Int)).toNat),.rorow 4 ((((k:Int)+1)%(la.length:Int)).toNat) 0,.rorow 4 ((((k:Int)+1)%(la.length:Int)).toNat) 1,.o 0,.o 0,.o 0,.o 1,.o 1,.o 0] [((0+((((k:Int)+1)%(la.length:Int)).toNat)*2)+1)=((((k:Int)+1)%(la.length:Int)).toNat)*2+1/\((((k:Int)+1)%(la.length:Int)).toNat)<ca,(0+((((k:Int)+1)%(la.length:Int)).toNat)*2)=((((k:Int)+1)%(la.length:Int)).toNat)*2+0/\((((k:Int)+1)%(la.length:Int)).toNat)<ca,((k:Int)+1)%(la.length:Int)=(((((k:Int)+1)%(la.length:Int)).toNat:Nat):Int)/\(((k:Int)+1)%(la.length:Int)).toNat<la.length,0<=(k:Int)+1/\(0:Int)<(la.length:Int)/\(k:Int)+1<=9223372036854775807] λ n5=>aal (jf (⟨i64.wrap (((la.getD ((((k:Int)+1)%(la.length:Int)).toNat) ⟨0,0⟩).y)-((la.getD k ⟨0,0⟩).y)),i64.wrap (((la.getD k ⟨0,0⟩).x)-((la.getD ((((k:Int)+1)%(la.length:Int)).toNat) ⟨0,0⟩).x))⟩:V2))<|aax 0 (hY k (qn la k) _ _ (HD (by show k<la.length;omega)) VC) ?_;rintro b_ T6 (⟨rfl,ZX⟩|⟨rfl,ZX⟩)
  ·refine ah 11 [.gen,.nw] [aI ((k:Int)+1)] λ _=>Vx (k+1,T6) [] [0] ?_
   try dsimp only
   exact⟨⟨by omega,ZX⟩,by omega⟩
  ·refine OU 4<|QV [] [] [0] (.tuple #[]) (ap [] [T6]) ?_;rw[br];exact .inr ZX
 ·have ek0:k=la.length:=by omega
  subst ek0;refine OU 37<|aat (σ:=Nat×HL) (λ ⟨k,T_⟩=>⟨[(0,.func (.yield lp) #[] #[]),(1,vP q1 0),(2,vP q2 0),(3,vP q3 0),(4,vP q4 0),(7,vS bb 0 lb.length cb),(15,.agg #[vS ba 0 la.length ca,vS bb 0 lb.length cb]),(16,vI 1),(19,vS bb 0 lb.length cb),(20,vI (lb.length:Int)),(21,vI (k:Int))],[],[T_],k<=lb.length/\J (la.length+k) T_,lb.length-k⟩) (0,T_) [] [0] (⟨aaJ _,VC⟩) ?_;rintro⟨k,T_⟩ ⟨YJ,VC⟩ mt9
  skip
  refine OU 6<|aaq ((k:Int)<(lb.length:Int)) 22 (λ No=>?_) λ No=>?_
  ·refine ah 22 [.ix k,.rorow 5 k 0,.rorow 5 k 1,.o 0,.o 0,.nw] [aI ((k:Int)+1),((0+k*2)+1)=k*2+1/\k<cb,(0+k*2)=k*2+0/\k<cb,(k:Int)=((k:Nat):Int)/\k<lb.length] λ n11=>?_;have hm1:=acy ((k:Int)+1) (show (lb.length:Int)≠0 by omega);have hm2:=aca ((k:Int)+1) (show (0:Int)<lb.length by omega);refine ah 21 [.nw,.ix ((((k:Int)+1)%(lb.length:Int)).toNat),.rorow 5 ((((k:Int)+1)%(lb.length:Int)).toNat) 0,.rorow 5 ((((k:Int)+1)%(lb.length:Int)).toNat) 1,.o 0,.o 0,.o 0,.o 1,.o 1,.o 0] [((0+((((k:Int)+1)%(lb.length:Int)).toNat)*2)+1)=((((k:Int)+1)%(lb.length:Int)).toNat)*2+1/\((((k:Int)+1)%(lb.length:Int)).toNat)<cb,(0+((((k:Int)+1)%(lb.length:Int)).toNat)*2)=((((k:Int)+1)%(lb.length:Int)).toNat)*2+0/\((((k:Int)+1)%(lb.length:Int)).toNat)<cb,((k:Int)+1)%(lb.length:Int)=(((((k:Int)+1)%(lb.length:Int)).toNat:Nat):Int)/\(((k:Int)+1)%(lb.length:Int)).toNat<lb.length,0<=(k:Int)+1/\(0:Int)<(lb.length:Int)/\(k:Int)+1<=9223372036854775807] λ n12=>aal (jf (⟨i64.wrap (((lb.getD ((((k:Int)+1)%(lb.length:Int)).toNat) ⟨0,0⟩).y)-((lb.getD k ⟨0,0⟩).y)),i64.wrap (((lb.getD k ⟨0,0⟩).x)-((lb.getD ((((k:Int)+1)%(lb.length:Int)).toNat) ⟨0,0⟩).x))⟩:V2))<|aax 0 (hY (la.length+k) (qn lb k) _ _ (HE (a:=(⟨ra,la,some ⟨ba,0,none⟩,ca⟩:Shp)) (by show k<lb.length;omega)) VC) ?_;rintro b_ WC (⟨rfl,adt⟩|⟨rfl,adt⟩)
   ·refine ah 11 [.gen,.nw] [aI ((k:Int)+1)] λ _=>mt9 (k+1,WC) [] [0] ?_
    try dsimp only
    exact⟨⟨by omega,adt⟩,by omega⟩
   ·refine OU 4<|QV [] [] [0] (.tuple #[]) (ap [] [WC]) ?_;rw[br];exact .inr adt
  ·have ek1:k=lb.length:=by omega
   subst ek1;refine SO 28 [.ro 0,.ro 0]<|aal (jb ra (some ⟨ba,0,none⟩) la.length ca)<|OU 1<|aas 54 (abh (show ¬ ((la.length:Int)=0) by omega))<|SO 10 [.ro 0,.ro 0]<|aal (jb ra (some ⟨ba,0,none⟩) la.length ca)<|OU 3<|aas 64 (abh (show ¬ ((la.length:Int)=0) by omega))<|SO 4 [.ro 1,.ro 1]<|aal (jb rb (some ⟨bb,0,none⟩) lb.length cb)<|OU 3<|aas 74 (abh (show ¬ ((lb.length:Int)=0) by omega))<|ae 3 [] λ _=>QV [] [] [0] (.tuple #[]) (ap [] [T_]) ?_;rw[br];exact .inl (by rw[hlen];exact VC)
end
section
variable {F:HL} {i q:Nat} {s:Shp} {xs:List Int} (a:Shp) (b:ByteArray) (n:Int) (pa pos pb ax:V2)
def fG(a:Shp)(pa:V2)(b:Shp)(pb:V2)(xs:List V2):Nat->Con
 |0=>⟨0,0,9223372036854775807⟩
 |i+1=>if nP a pa b pb (xs.getD i ⟨0,0⟩)<(fG a pa b pb xs i).d then ⟨(xs.getD i ⟨0,0⟩).x,(xs.getD i ⟨0,0⟩).y,nP a pa b pb (xs.getD i ⟨0,0⟩)⟩ else fG a pa b pb xs i
def jF(a:Shp)(pa:V2)(b:Shp)(pb:V2)(xs:List V2):Nat->Bool
 |0=>true
 |i+1=>jF a pa b pb xs i && !decide (nP a pa b pb (xs.getD i ⟨0,0⟩)<=0)
theorem xT{a:Shp}{pa:V2}{b:Shp}{pb:V2}{xs:List V2}{i:Nat}(h:jF a pa b pb xs i=false):∀k,jF a pa b pb xs (i+k)=false
 |0=>h
 |k+1=>by rw[<- adk,jF,xT h k];rfl
def HG(pa pb:V2)(c:Con):Con:=if cX (bQ pb pa) ⟨c.nx,c.ny⟩<0 then ⟨(tN ⟨c.nx,c.ny⟩).x,(tN ⟨c.nx,c.ny⟩).y,c.d⟩ else c
def cq(a:Shp)(pa:V2)(b:Shp)(pb:V2):Con×Bool:=if QJ (ew a pa) (ew b pb) then (if jF a pa b pb (aH a pa b pb) (aH a pa b pb).length=true then (HG pa pb (fG a pa b pb (aH a pa b pb) (aH a pa b pb).length),true) else (⟨0,0,0⟩,false)) else (⟨0,0,0⟩,false)
theorem Mh{xs:List V2}{x:V2}(h:xs[i]?=some x):xs.getD i ⟨0,0⟩=x:=by rw[aaG,h];rfl
theorem Mi{a:Shp}{b:Shp}{q1 q2 q3 q4:Nat}(ha:ShIn F a)(hb:ShIn F b)(Yk:(q1,.lit [vI a.r,.slice a.A a.poly.length a.cap] 70 (0,0))∈F)(Vh:(q2,.lit [vI b.r,.slice b.A b.poly.length b.cap] 70 (0,0))∈F)(Yj:(q3,.lit [vI pb.x,vI pb.y] 32 (0,0))∈F)(X2:(q4,.lit [vI pa.x,vI pa.y] 32 (0,0))∈F) :
  It Tryz.prog 334 #[vP q1 0,vP q2 0,vP q3 0,vP q4 0] F HF (aH a pa b pb):=by
 intro X l J Jx H0 hY h0;have key:aeo 334 #[.func (.yield l) #[] #[],vP q1 0,vP q2 0,vP q3 0,vP q4 0] (ap [] [H0]) (X++F) (λ _ H'=>J (aH a pa b pb).length H'\/Jx H'):=by
  cases ha with
  |circle ra Aa ca=>
   cases hb with
   |circle rb Ab cb=>exact Md pa pb l X Jx Yk Vh Yj X2 hY h0
   |poly rb lb bb cb h h3 h4 h5=>exact Me pa pb l X Jx Yk Vh Yj X2 h h3 h4 h5 hY h0
  |poly ra la ba ca g g3 g4 g5=>
   cases hb with
   |circle rb Ab cb=>exact Mf pa pb l X Jx Yk Vh Yj X2 g g3 g4 g5 hY h0
   |poly rb lb bb cb h h3 h4 h5=>exact Mg pa pb l X Jx Yk Vh Yj X2 g g3 g4 g5 h h3 h4 h5 hY h0
 rw[br] at key;exact key
theorem EE(b:Shp)(pb:V2):aeo 308 #[LT a,.agg #[vI pa.x,vI pa.y],LT b,.agg #[vI pb.x,vI pb.y]] (ap [] []) F (λ u H'=>∃n:Nat,H'=ap [((n+3),.lit [vI pb.x,vI pb.y] 32 (0,0)),((n+2),.lit [vI b.r,.slice b.A b.poly.length b.cap] 70 (0,0)),((n+1),.lit [vI pa.x,vI pa.y] 32 (0,0)),((n+0),.lit [vI a.r,.slice a.A a.poly.length a.cap] 70 (0,0))] []/\u=.func (.func 334) #[] #[vP (n+0) 0,vP (n+2) 0,vP (n+3) 0,vP (n+1) 0]):=by
 refine QT Tryz.func308<|ae 15 [] λ n1=>QV [] [0,1,2,3] [] (.func (.func 334) #[] #[vP (n1+0) 0,vP (n1+2) 0,vP (n1+3) 0,vP (n1+1) 0]) [((n1+3),.lit [vI pb.x,vI pb.y] 32 (0,0)),((n1+2),.lit [vI b.r,.slice b.A b.poly.length b.cap] 70 (0,0)),((n1+1),.lit [vI pa.x,vI pa.y] 32 (0,0)),((n1+0),.lit [vI a.r,.slice a.A a.poly.length a.cap] 70 (0,0))] ⟨_,rfl,rfl⟩
theorem qp(b:Shp)(pb:V2)(ha:ShIn F a)(hb:ShIn F b):aen 280 #[.agg #[vI a.r,.slice a.A a.poly.length a.cap],.agg #[vI pa.x,vI pa.y],.agg #[vI b.r,.slice b.A b.poly.length b.cap],.agg #[vI pb.x,vI pb.y]] F (.tuple #[.agg #[vI (cq a pa b pb).1.nx,vI (cq a pa b pb).1.ny,vI (cq a pa b pb).1.d],.bool (cq a pa b pb).2]):=by
 refine Sp.runM Tryz.func280 rfl mn (A:=[]) (Ts:=[]) rfl λ w0=>ae 12 [] λ n1=>aap [] []<|ag [] [0,1,3,4] [.o 5,.o 5,.o 4,.o 4,.o 3,.o 3,.o 2,.o 2]<|aae [] 2 (λ X_=>(rK (s:=a) pa (ha.up.up)))<|aae [] 5 (λ X_=>(rK (s:=b) pb (hb.up.up)))<|aae [] 6 (λ X_=>(L6 (ew a pa) (ew b pb)))<|aem [7]<|Q2 1<|aar (QJ (ew a pa) (ew b pb)) 20 (λ h2=>?_) λ h2=>?_
 ·refine ae 17 (aab 3++[.o 6,.o 6,.o 5,.o 5,.o 4,.o 4,.o 3,.o 3]) λ n3=>SP (EE a pa b pb) ?_;rintro _ m4 rfl;refine OU 3<|aao 4 (.lit [vI ((fG a pa b pb (aH a pa b pb) 0).nx),vI ((fG a pa b pb (aH a pa b pb) 0).ny),vI ((fG a pa b pb (aH a pa b pb) 0).d)] 291 (0,0))<|RN.range (σ:=Nat) (τ:=Nat×V2×Nat) (encs:=λ (x_:V2)=>#[.agg #[vI x_.x,vI x_.y]]) (xs:=(aH a pa b pb)) (enters_of Tryz.func334 (by kernel_rfl) rfl) (λ m_=>([((n3+0),.lit [vI ((fG a pa b pb (aH a pa b pb) m_).nx),vI ((fG a pa b pb (aH a pa b pb) m_).ny),vI ((fG a pa b pb (aH a pa b pb) m_).d)] 291 (0,0)),((n1+5),.lit [.bool false] 4 (0,0)),((n1+4),.lit [vI 0,vI 0,vI 0] 291 (0,0))],[])) (λ i_ m_=>m_=i_/\jF a pa b pb (aH a pa b pb) m_=true) (λ c_ m_=>c_=Code.ret/\jF a pa b pb (aH a pa b pb) (aH a pa b pb).length=false) (λ ⟨m_,y_,nb⟩=>⟨[(4,vP (n1+0) 0),(5,vP (n1+1) 0),(6,vP (n1+2) 0),(7,vP (n1+3) 0),(8,vP (n1+4) 0),(9,vP (n1+5) 0),(10,vP (n3+0) 0),(11,vP (nb+0) 0)],[((nb+0),.lit [vI y_.x,vI y_.y] 32 (0,0)),((n3+0),.lit [vI ((fG a pa b pb (aH a pa b pb) m_).nx),vI ((fG a pa b pb (aH a pa b pb) m_).ny),vI ((fG a pa b pb (aH a pa b pb) m_).d)] 291 (0,0)),((n1+5),.lit [.bool false] 4 (0,0)),((n1+4),.lit [vI 0,vI 0,vI 0] 291 (0,0))],[],True,0⟩) (λ i_ x_ ⟨m_,y_,nb⟩=>m_=i_/\jF a pa b pb (aH a pa b pb) m_=true/\y_=x_) 0 (⟨rfl,rfl⟩) [4,5,6] [] (Mi pa pb (q1:=m4+0) (q2:=m4+2) (q3:=m4+3) (q4:=m4+1) ha.up hb.up (aw 3) (aw 1) (aw 0) (aw 2)) ?_ ?_ ?_ ?_
  ·rintro l_ i_ x_ m_ Y5 w6 hx7 XN Zd;obtain⟨rfl,dO⟩:=XN;refine ae 4 (aab 2) λ n9=>Zd (m_,x_,n9) [0,1,2,3] [] ?_
   try dsimp only
   exact⟨rfl,dO,rfl⟩
  ·rintro l_ i_ x_ ⟨m_,y_,nb⟩ Y10 w11 aeX XN;obtain⟨rfl,dO,rfl⟩:=XN;have ex:=Mh aeX
   skip
   refine SO 8 [.ro 7,.ro 7,.ro 6,.ro 6,.ro 5,.ro 5,.ro 4,.ro 4,.o 0,.o 0]<|aal (EC (a:=a) pa (b:=b) pb y_ (ha.up.up.up) (hb.up.up.up))<|OU 10<|aaq (nP a pa b pb y_<=0) 36 (λ U8=>?_) λ U8=>?_
   ·refine SO 8 (ow 3 3++[.o 2])<|RN.rr m_ [1,2,3] [] ?_
    try dsimp only
    refine⟨rfl,?_⟩;have Yn:m_<(aH a pa b pb).length:=(bt.1 aeX).1;have h1_:jF a pa b pb (aH a pa b pb) (m_+1)=false:=by rw[jF,ex,dO,abk U8];rfl
    have UJ:=xT h1_ ((aH a pa b pb).length-(m_+1));rwa [show m_+1+((aH a pa b pb).length-(m_+1))=(aH a pa b pb).length by omega] at UJ
   ·refine SO 11 [.o 1]<|aaq (nP a pa b pb y_<(fG a pa b pb (aH a pa b pb) m_).d) 41 (λ Vu=>?_) λ Vu=>?_
    ·refine ae 8 ([.o 0,.o 0]++ow 1 3) λ _=>?_;have ZB:jF a pa b pb (aH a pa b pb) (m_+1)=true:=by rw[jF,ex,dO,abh U8];rfl
     have e_:(fG a pa b pb (aH a pa b pb) (m_+1))=(⟨y_.x,y_.y,nP a pa b pb y_⟩:Con):=by rw[fG,ex,if_pos Vu]
     refine aak 1 (congrArg (λ v_=>(.lit [vI v_.nx,vI v_.ny,vI v_.d] 291 (0,0):Blk)) e_.symm)<|RN.rn (m_+1) [1,2,3] [] ?_
     try dsimp only
     exact⟨rfl,ZB⟩
    ·refine ae 3 [] λ _=>?_;have ZB:jF a pa b pb (aH a pa b pb) (m_+1)=true:=by rw[jF,ex,dO,abh U8];rfl
     have e_:(fG a pa b pb (aH a pa b pb) (m_+1))=(fG a pa b pb (aH a pa b pb) m_):=by rw[fG,ex,if_neg Vu]
     refine aak 1 (congrArg (λ v_=>(.lit [vI v_.nx,vI v_.ny,vI v_.d] 291 (0,0):Blk)) e_.symm)<|RN.rn (m_+1) [1,2,3] [] ?_
     try dsimp only
     exact⟨rfl,ZB⟩
  ·rintro d15 m_ XN;obtain⟨rfl,dO⟩:=XN;refine OU 4<|aap [] []<|ag [] [0,1,3,4] [.o 8,.o 8,.o 10,.o 10,.o 1,.o 1]<|aae [] 2 (λ X_=>(i9 pb pa))<|aae [] 5 (λ X_=>(oO (bQ pb pa) (⟨(fG a pa b pb (aH a pa b pb) (aH a pa b pb).length).nx,(fG a pa b pb (aH a pa b pb) (aH a pa b pb).length).ny⟩:V2)))<|aem [6]<|Q2 1<|aaq (cX (bQ pb pa) (⟨(fG a pa b pb (aH a pa b pb) (aH a pa b pb).length).nx,(fG a pa b pb (aH a pa b pb) (aH a pa b pb).length).ny⟩:V2)<0) 51 (λ U4=>?_) λ U4=>?_
   ·refine SO 4 [.o 1,.o 1]<|aal (Hh (⟨(fG a pa b pb (aH a pa b pb) (aH a pa b pb).length).nx,(fG a pa b pb (aH a pa b pb) (aH a pa b pb).length).ny⟩:V2))<|ae 11 (ow 1 5++(ow 3 3++[.o 2])) λ _=>RN.retM [d15] [0] (ow 2 3++[.o 1]) [] [] (v:=.tuple #[.agg #[vI ((tN (⟨(fG a pa b pb (aH a pa b pb) (aH a pa b pb).length).nx,(fG a pa b pb (aH a pa b pb) (aH a pa b pb).length).ny⟩:V2)).x),vI ((tN (⟨(fG a pa b pb (aH a pa b pb) (aH a pa b pb).length).nx,(fG a pa b pb (aH a pa b pb) (aH a pa b pb).length).ny⟩:V2)).y),vI ((fG a pa b pb (aH a pa b pb) (aH a pa b pb).length).d)],.bool true]) ⟨by simp only[cq,if_pos h2,dO,if_true,HG,if_pos U4],rfl⟩
   ·refine ae 10 (ow 1 3++ow 3 3++[.o 2]) λ _=>RN.retM [d15] [0] (ow 2 3++[.o 1]) [] [] (v:=.tuple #[.agg #[vI ((fG a pa b pb (aH a pa b pb) (aH a pa b pb).length).nx),vI ((fG a pa b pb (aH a pa b pb) (aH a pa b pb).length).ny),vI ((fG a pa b pb (aH a pa b pb) (aH a pa b pb).length).d)],.bool true]) ⟨by simp only[cq,if_pos h2,dO,if_true,HG,if_neg U4],rfl⟩
  ·rintro d17 c_ m_ ⟨rfl,Wj⟩;exact RN.retM [d17] [0] (ow 2 3++[.o 1]) [] [] (v:=.tuple #[.agg #[vI 0,vI 0,vI 0],.bool false]) ⟨by simp only[cq,if_pos h2,Wj];rfl,rfl⟩
 ·refine ae 8 (ow 1 3++[.o 0]) λ _=>RN.retM [] [] (ow 1 3++[.o 0]) [] [] (v:=.tuple #[.agg #[vI 0,vI 0,vI 0],.bool false]) ⟨by simp only[cq,if_neg h2],rfl⟩
def nu(pos:V2)(l:List V2):Nat->Bx
 |0=>⟨(aF pos (l.getD 0 ⟨0,0⟩)).x,(aF pos (l.getD 0 ⟨0,0⟩)).y,(aF pos (l.getD 0 ⟨0,0⟩)).x,(aF pos (l.getD 0 ⟨0,0⟩)).y⟩
 |k+1=>N6 (nu pos l k) (aF pos (l.getD k ⟨0,0⟩))
def lW(s:Shp)(pos:V2):Bx:=if ja s then ⟨aR (pos.x-s.r),aR (pos.y-s.r),aR (pos.x+s.r),aR (pos.y+s.r)⟩ else nu pos s.poly s.poly.length
theorem rV(r:Int)(A:Option Addr)(cap:Nat)(pos:V2)(F:HL):aen 252 #[.agg #[vI r,.slice A 0 cap],.agg #[vI pos.x,vI pos.y]] F (.agg #[vI ((lW ⟨r,[],A,cap⟩ pos).x0),vI ((lW ⟨r,[],A,cap⟩ pos).y0),vI ((lW ⟨r,[],A,cap⟩ pos).x1),vI ((lW ⟨r,[],A,cap⟩ pos).y1)]):=by
 refine QT Tryz.func252<|ae 43 ([.o 2,.o 1,.o 2,.o 1,.o 2,.o 1,.o 2,.o 1,.o 2]++aab 4) λ n1=>aav (aab 4) [] [] ⟨rfl,rfl⟩
theorem wb(r:Int){l:List V2}{b cap:Nat}(pos:V2)(hb:(b,.rows 2 cap (jY l) 32 (0,0))∈F)(h3:3<=l.length)(h4:l.length<=cap)(h5:l.length<=1000000):aen 252 #[.agg #[vI r,vS b 0 l.length cap],.agg #[vI pos.x,vI pos.y]] F (.agg #[vI ((lW ⟨r,l,some ⟨b,0,none⟩,cap⟩ pos).x0),vI ((lW ⟨r,l,some ⟨b,0,none⟩,cap⟩ pos).y0),vI ((lW ⟨r,l,some ⟨b,0,none⟩,cap⟩ pos).x1),vI ((lW ⟨r,l,some ⟨b,0,none⟩,cap⟩ pos).y1)]):=by
 refine QU Tryz.func252 hb<|ae 16 [.o 2] λ n1=>aas 11 (abh (show ¬ ((l.length:Int)=0) by omega))<|OU 4<|aap [34] []<|aA [] [0,2,8,10,16,18,24,26,1,3,9,11,17,19,25,27,4,12,20,28,5,13,21,29,6,14,22,30,7,15,23,31,32] [.o 1,.o 2,.o 1,.o 2,.o 1,.o 2,.o 1,.o 2,.ix 0,.ix 0,.ix 0,.ix 0,.rorow 0 0 0,.rorow 0 0 1,.rorow 0 0 0,.rorow 0 0 1] [((0+0*2)+1)=0*2+1/\0<cap,(0+0*2)=0*2+0/\0<cap,((0+0*2)+1)=0*2+1/\0<cap,(0+0*2)=0*2+0/\0<cap,0=((0:Nat):Int)/\0<l.length,0=((0:Nat):Int)/\0<l.length,0=((0:Nat):Int)/\0<l.length,0=((0:Nat):Int)/\0<l.length]<|aag 33 (aai [] [] λ n2=>?_);refine SV 34 [] (aab 4)<|Q2 8<|aat (σ:=Nat) (λ k=>⟨[(2,vP (n1+0) 0),(3,vP (n1+1) 0),(4,vP (n1+2) 0),(5,vP (n2+0) 0),(6,vI (k:Int))],[((n2+0),.lit [vI ((nu pos l k).x0),vI ((nu pos l k).y0),vI ((nu pos l k).x1),vI ((nu pos l k).y1)] 28 (0,0)),((n1+2),.lit [vI 0,vI 0,vI 0,vI 0] 28 (0,0)),((n1+1),.lit [vI pos.x,vI pos.y] 32 (0,0)),((n1+0),.lit [vI r,vS b 0 l.length cap] 70 (0,0))],[],k<=l.length,l.length-k⟩) 0 [0,1,2,3] [] (aaJ _) ?_;rintro k hI3 YA;refine SO 10 [.o 3]<|aaq ((k:Int)<(l.length:Int)) 70 (λ h5=>?_) λ h5=>?_
 ·refine OU 6<|aap [8] []<|aA [] [0,1,3,2,4,5] [.o 2,.o 2,.o 3,.ix k,.rorow 0 k 0,.rorow 0 k 1] [((0+k*2)+1)=k*2+1/\k<cap,(0+k*2)=k*2+0/\k<cap,(k:Int)=((k:Nat):Int)/\k<l.length]<|aae [] 6 (λ X_=>(eM pos (l.getD k ⟨0,0⟩)))<|aag 7 (aai [] [] λ n6=>?_);refine SV 8 [] (aab 2)<|aaf<|ah 32 ([.o 1,.o 0,.o 1,.o 0,.o 1,.o 0,.o 1,.o 0]++ow 1 4++[.nw]) [aI ((k:Int)+1)] λ _=>YA (k+1) [1,2,3,4] [] ?_
  try dsimp only
  refine⟨by omega,by omega⟩
 ·refine SO 12 (aab 4++ow 1 4)<|QV (ow 1 4) [] [] (.agg #[vI ((nu pos l k).x0),vI ((nu pos l k).y0),vI ((nu pos l k).x1),vI ((nu pos l k).y1)]) [] ?_;have ek:k=l.length:=by omega
  subst ek;refine⟨?_,rfl⟩;unfold lW;rw[if_neg (by intro e;simp[ja] at e;rw[e] at h3;simp at h3)]
theorem qr(h:ShIn F s):aen 252 #[LT s,.agg #[vI pos.x,vI pos.y]] F (.agg #[vI (lW s pos).x0,vI (lW s pos).y0,vI (lW s pos).x1,vI (lW s pos).y1]):=by
 cases h with
 |circle r A cap=>exact rV r A cap pos F
 |poly r l b cap h h3 h4 h5=>exact wb r pos h h3 h4 h5
def HH(a b:Bx):Prop:=(if b.x0>a.x0 then b.x0 else a.x0)<=(if b.x1<a.x1 then b.x1 else a.x1)/\(if b.y0>a.y0 then b.y0 else a.y0)<=(if b.y1<a.y1 then b.y1 else a.y1)
instance (a b:Bx):Decidable (HH a b):=inferInstanceAs (Decidable (_/\_))
theorem HI(a:Bx)(b:Bx):aen 251 #[.agg #[vI a.x0,vI a.y0,vI a.x1,vI a.y1],.agg #[vI b.x0,vI b.y0,vI b.x1,vI b.y1]] F (.bool (decide (HH a b))):=by
 refine QT Tryz.func251<|ae 21 [.o 1,.o 0,.o 1,.o 0] λ n1=>aaq ((if b.x0>a.x0 then b.x0 else a.x0)<=if b.x1<a.x1 then b.x1 else a.x1) 16 (λ h2=>?_) λ h2=>?_
 ·refine SO 15 [.o 1,.o 0,.o 1,.o 0]<|QW (.bool (decide ((if b.y0>a.y0 then b.y0 else a.y0)<=if b.y1<a.y1 then b.y1 else a.y1))) [] ⟨?_,rfl⟩;unfold HH
  first|(rw[abh (λ h_=>by have:=h_.1;contradiction)];done)|(simp only[*,true_and];done)|(simp[*];done)|(simp only[*];simp)
 ·refine OU 15<|QW (.bool false) [] ⟨?_,rfl⟩;unfold HH
  first|(rw[abh (λ h_=>by have:=h_.1;contradiction)];done)|(simp only[*,true_and];done)|(simp[*];done)|(simp only[*];simp)
theorem wc(r:Int)(A:Option Addr)(cap:Nat)(pos ax:V2)(F:HL):aeo 254 #[.agg #[vI r,.slice A 0 cap],.agg #[vI pos.x,vI pos.y],.agg #[vI ax.x,vI ax.y]] [] F (λ u H'=>∃x:Int×Int,H'=ap [] []/\u=.tuple #[vI x.1,vI x.2]):=by
 refine QT Tryz.func254<|ae 13 [.o 1,.o 1,.o 0,.o 0] λ n1=>aal (lO pos ax)<|SO 28 [.o 2,.o 2]<|aaw 1<|SO 24 [.o 2]<|QW (.tuple #[vI (i64.wrap ((f8 pos ax)-r)),vI (i64.wrap ((f8 pos ax)+r))]) (ap [] []) ⟨(_,_),rfl,rfl⟩
theorem Bh(r:Int){l:List V2}{b cap:Nat}(pos ax:V2)(hb:(b,.rows 2 cap (jY l) 32 (0,0))∈F)(h3:3<=l.length)(h4:l.length<=cap)(h5:l.length<=1000000):aeo 254 #[.agg #[vI r,vS b 0 l.length cap],.agg #[vI pos.x,vI pos.y],.agg #[vI ax.x,vI ax.y]] [] F (λ u H'=>∃x:Int×Int,H'=ap [] []/\u=.tuple #[vI x.1,vI x.2]):=by
 refine QU Tryz.func254 hb<|ae 13 [.o 1,.o 1,.o 0,.o 0] λ n1=>aal (lO pos ax)<|SO 28 [.o 2,.o 2]<|aat (σ:=Nat×Int×Int) (λ x_=>⟨[(3,vP (n1+0) 0),(4,vP (n1+1) 0),(5,vP (n1+2) 0),(9,vI x_.2.1),(10,vI x_.2.2),(11,vI (x_.1:Int))],[((n1+2),.lit [vI ax.x,vI ax.y] 32 (0,0)),((n1+1),.lit [vI pos.x,vI pos.y] 32 (0,0)),((n1+0),.lit [vI r,vS b 0 l.length cap] 70 (0,0))],[],x_.1<=l.length,l.length-x_.1⟩) (0,i64.wrap ((f8 pos ax)-r),i64.wrap ((f8 pos ax)+r)) [0,1,2] [] (aaJ _) ?_;rintro x_ Yt OF;refine SO 10 [.o 2]<|aaq ((x_.1:Int)<(l.length:Int)) 28 (λ h4=>?_) λ h4=>?_
 ·refine OU 6<|aap [] []<|aA [] [0,1,3,7,2,4,5] [.o 1,.o 1,.o 0,.o 0,.o 2,.ix x_.1,.rorow 0 x_.1 0,.rorow 0 x_.1 1] [((0+x_.1*2)+1)=x_.1*2+1/\x_.1<cap,(0+x_.1*2)=x_.1*2+0/\x_.1<cap,(x_.1:Int)=((x_.1:Nat):Int)/\x_.1<l.length]<|aae [] 6 (λ X_=>(eM pos (l.getD x_.1 ⟨0,0⟩)))<|aae [] 8 (λ X_=>(lO (aF pos (l.getD x_.1 ⟨0,0⟩)) ax))<|aem [9]<|Q2 8<|aaq ((x_.1:Int)=0) 41 (λ h5=>?_) λ h5=>?_
  ·refine ah 33 [.nw] [aI ((x_.1:Int)+1)] λ _=>OF (x_.1+1,if f8 (aF pos (l.getD x_.1 ⟨0,0⟩)) ax<f8 (aF pos (l.getD x_.1 ⟨0,0⟩)) ax then f8 (aF pos (l.getD x_.1 ⟨0,0⟩)) ax else f8 (aF pos (l.getD x_.1 ⟨0,0⟩)) ax,if f8 (aF pos (l.getD x_.1 ⟨0,0⟩)) ax>f8 (aF pos (l.getD x_.1 ⟨0,0⟩)) ax then f8 (aF pos (l.getD x_.1 ⟨0,0⟩)) ax else f8 (aF pos (l.getD x_.1 ⟨0,0⟩)) ax) [0,1,2] [] ?_
   try dsimp only
   refine⟨by omega,by omega⟩
  ·refine ah 24 [.nw] [aI ((x_.1:Int)+1)] λ _=>OF (x_.1+1,if f8 (aF pos (l.getD x_.1 ⟨0,0⟩)) ax<x_.2.1 then f8 (aF pos (l.getD x_.1 ⟨0,0⟩)) ax else x_.2.1,if f8 (aF pos (l.getD x_.1 ⟨0,0⟩)) ax>x_.2.2 then f8 (aF pos (l.getD x_.1 ⟨0,0⟩)) ax else x_.2.2) [0,1,2] [] ?_
   try dsimp only
   refine⟨by omega,by omega⟩
 ·refine OU 14<|QW (.tuple #[vI x_.2.1,vI x_.2.2]) (ap [] []) ⟨(_,_),rfl,rfl⟩
theorem ut(h:ShIn F s):aeo 254 #[LT s,.agg #[vI pos.x,vI pos.y],.agg #[vI ax.x,vI ax.y]] (ap [] []) F (λ u H'=>∃x:Int×Int,H'=ap [] []/\u=.tuple #[vI x.1,vI x.2]):=by
 cases h with
 |circle r A cap=>exact wc r A cap pos ax F
 |poly r l b cap h h3 h4 h5=>exact Bh r pos ax h h3 h4 h5
def O2(a b:Int):Int:=u64.wrap ((BitVec.ofInt 64 a ^^^ BitVec.ofInt 64 b).toNat:Int)
def orU(a b:Int):Int:=u64.wrap ((BitVec.ofInt 64 a ||| BitVec.ofInt 64 b).toNat:Int)
def xU(a b:Int):Int:=O2 (u64.wrap (O2 a b*11400714819323198485)) ((u64.wrap (O2 a b*11400714819323198485)).fdiv 4294967296)
def uu(b:ByteArray)(i:Nat):Nat->Int
 |0=>0
 |k+1=>orU (uu b i k) (u64.wrap (u64.wrap (GQ b (8*i+k))*2 ^ min (8*(k:Int)).toNat 64))
def wk(b:ByteArray)(i:Nat):Nat:=min 8 (b.size-8*i)
def wn(b:ByteArray):Nat:=(b.size+7)/8
def ij(b:ByteArray):List Int:=(List.range (wn b)).map λ i=>uu b i (wk b i)
theorem Bi:(ij b).length=wn b:=by simp[ij]
theorem rX{b:ByteArray}(h:8*i<b.size):(ij b)[i]?=some (uu b i (wk b i)):=by
 have:i<wn b:=by unfold wn;omega
 simp[ij,this]
def jQ(b:ByteArray):Nat->Int
 |0=>0
 |m+1=>xU (jQ b m) ((ij b).getD m 0)
def rY(b:ByteArray)(n:Int):Int:=xU (xU (jQ b (ij b).length) (u64.wrap (b.size:Int))) (u64.wrap n)
def HJ(s:Int)(xs:List Int):Nat->Int
 |0=>s
 |k+1=>xU (HJ s xs k) (u64.wrap (xs.getD k 0))
def O3(b:ByteArray)(xs:List Int):Int:=xU (HJ (rY b xs.length) xs xs.length) 0
abbrev Rg(x:Int):Array Value:=#[.int .u64 x]
theorem HK{x:Int}(h:xs[i]?=some x):xs.getD i 0=x:=by rw[aaG,h];rfl
theorem oS(a b:Int):aen 379 #[.int .u64 a,.int .u64 b] F (.int .u64 (xU a b)):=by
 refine QT Tryz.func379<|ae 23 [] λ _=>QW _ _ ⟨rfl,rfl⟩
theorem EF{b:ByteArray} (lp:Nat)(X:HL){J:Nat->HL->Prop}(Jx:HL->Prop){T0:HL}(hb:b.size<=1000000)(hq:(q,.lit [.string b] 9 (0,0))∈F)(hY:∀i x H Y,(ij b)[i]?=some x->J i H->YL Tryz.prog lp (Rg x) H (Y++(X++F)) (λ b H'=>(b=true/\J (i+1) H')\/(b=false/\Jx H')))(XM:J 0 T0):aeo 387 #[.func (.yield lp) #[] #[],vP q 0] (ap [] [T0]) (X++F) (λ _ H'=>J (ij b).length H'\/Jx H'):=by
 refine QS Tryz.func387 (mc (aaB _ hq) mn)<|OU 6<|aat (σ:=Nat×HL) (λ ⟨i,T_⟩=>⟨[(0,.func (.yield lp) #[] #[]),(1,vP q 0),(3,vI (8*(i:Int)))],[],[T_],i<=wn b/\J i T_,wn b-i⟩) (0,T0) [] [0] (⟨aaJ _,XM⟩) ?_;rintro⟨i,T_⟩ ⟨hi_,VC⟩ Vx;refine SO 9 [.ro 0]<|aaq (8*(i:Int)<((b).size:Int)) 9 (λ h3=>?_) λ h3=>?_
 ·refine OU 17<|aat (σ:=Nat) (λ k=>⟨[(0,.func (.yield lp) #[] #[]),(1,vP q 0),(3,vI (8*(i:Int))),(4,.int .u64 (uu b i k)),(5,vI (k:Int))],[],[T_],k<=8/\8*i+k<=b.size,8-k⟩) 0 [] [0] (⟨by omega,by omega⟩) ?_;rintro k ⟨YJ,afG⟩ W9;refine OU 6<|aaq ((k:Int)<8) 14 (λ h6=>?_) λ h6=>?_
  ·refine ah 9 [.nw,.ro 0] [aI ((8*(i:Int))+(k:Int))] λ _=>aaq ((8*(i:Int))+(k:Int)<((b).size:Int)) 21 (λ h7=>?_) λ h7=>?_
   ·refine ah 26 [.ro 0,.nw,.ix (8*i+k),.nw,.dv,.gen,.nw] [aI ((k:Int)+1),0<=8*(k:Int),aI (8*(k:Int)),(8*(i:Int))+(k:Int)=(((8*i+k):Nat):Int)/\(8*i+k)<(b).size,aI ((8*(i:Int))+(k:Int))] λ _=>W9 (k+1) [] [0] ?_
    try dsimp only
    exact⟨⟨by omega,by omega⟩,by omega⟩
   ·obtain rfl:k=wk b i:=by unfold wk;omega
    refine OU 10<|aax 0 (hY i (uu b i (wk b i)) _ _ (rX (by omega)) VC) ?_;rintro b_ T8 (⟨rfl,ZW⟩|⟨rfl,ZW⟩)
    ·refine ah 12 [.gen,.nw] [aI ((8*(i:Int))+8)] λ _=>aM 3 (congrArg (λ v_=>(vI v_:Value)) (show (8*(i:Int)+8)=8*((i+1:Nat):Int) by omega))<|Vx (i+1,T8) [] [0] ?_
     try dsimp only
     exact⟨⟨by unfold wn at *;omega,ZW⟩,by unfold wn at *;omega⟩
    ·refine OU 4<|QV [] [] [0] (.tuple #[]) (ap [] [T8]) ?_;rw[br];exact .inr ZW
  ·obtain rfl:k=wk b i:=by unfold wk;omega
   refine OU 19<|aax 0 (hY i (uu b i (wk b i)) _ _ (rX (by omega)) VC) ?_;rintro b_ W7 (⟨rfl,adu⟩|⟨rfl,adu⟩)
   ·refine ah 12 [.gen,.nw] [aI ((8*(i:Int))+8)] λ _=>aM 3 (congrArg (λ v_=>(vI v_:Value)) (show (8*(i:Int)+8)=8*((i+1:Nat):Int) by omega))<|Vx (i+1,W7) [] [0] ?_
    try dsimp only
    exact⟨⟨by unfold wn at *;omega,adu⟩,by unfold wn at *;omega⟩
   ·refine OU 4<|QV [] [] [0] (.tuple #[]) (ap [] [W7]) ?_;rw[br];exact .inr adu
 ·obtain rfl:i=wn b:=by unfold wn at *;omega
  refine OU 5<|QV [] [] [0] (.tuple #[]) (ap [] [T_]) ?_;rw[br];exact .inl (by rw[Bi];exact VC)
theorem HM{b:ByteArray}(hb:b.size<=1000000)(hq:(q,.lit [.string b] 9 (0,0))∈F):It Tryz.prog 387 #[vP q 0] F Rg (ij b):=by
 intro X l J Jx H0 hY h0;have key:=EF l X Jx hb hq hY h0;rw[br] at key;exact key
theorem EG:aeo 383 #[.string b] (ap [] []) F (λ u H'=>∃n:Nat,H'=ap [((n+0),.lit [.string b] 9 (0,0))] []/\u=.func (.func 387) #[] #[vP (n+0) 0]):=by
 refine QT Tryz.func383<|ae 12 [] λ n1=>QV [] [0] [] (.func (.func 387) #[] #[vP (n1+0) 0]) (ap [((n1+0),.lit [.string b] 9 (0,0))] []) ⟨_,rfl,rfl⟩
theorem Bj(hb:b.size<=1000000):aen 378 #[.string b,vI n] F (.int .u64 (rY b n)):=by
 refine Sp.runM Tryz.func378 rfl mn (A:=[]) (Ts:=[]) rfl λ w0=>ae 14 [] λ n1=>SP (EG b) ?_;rintro _ m2 rfl;refine OU 3<|RN.range (σ:=Nat) (τ:=Nat×Int) (encs:=λ (x_:Int)=>#[.int .u64 x_]) (xs:=(ij b)) (enters_of Tryz.func387 (by kernel_rfl) rfl) (λ m_=>([((n1+0),.lit [.int .u64 (jQ b m_)] 326 (0,0))],[])) (λ i_ m_=>m_=i_) (λ c_ m_=>False) (λ ⟨m_,y_⟩=>⟨[(0,.string b),(1,vI n),(5,vP (n1+0) 0),(6,.int .u64 y_)],[((n1+0),.lit [.int .u64 (jQ b m_)] 326 (0,0))],[],True,0⟩) (λ i_ x_ ⟨m_,y_⟩=>m_=i_/\y_=x_) 0 rfl [1] [] (HM (b:=b) (q:=m2+0) hb (aw 0)) ?_ ?_ ?_ ?_
 ·rintro l_ i_ x_ m_ Y3 w4 hx5 rfl Yz;refine ae 3 [] λ _=>Yz (m_,x_) [0] [] ?_
  try dsimp only
  exact⟨rfl,rfl⟩
 ·rintro l_ i_ x_ ⟨m_,y_⟩ Y7 w8 hx9 ⟨rfl,ey_⟩;refine SO 4 [.o 0]<|aal (oS (jQ b m_) y_)<|ae 3 [.o 0] λ _=>?_;have e_:jQ b (m_+1)=xU (jQ b m_) y_:=by rw[jQ,ey_,HK hx9]
  refine aak 0 (congrArg (λ v_=>(.lit [.int .u64 v_] 326 (0,0):Blk)) e_.symm)<|RN.rn (m_+1) [0] [] ?_
  try dsimp only
  first|done|rfl
 ·rintro d10 m_ rfl;refine SO 8 [.o 1]<|aal (oS (jQ b (ij b).length) (u64.wrap ((b).size:Int)))<|OU 2<|aal (oS (xU (jQ b (ij b).length) (u64.wrap ((b).size:Int))) (u64.wrap n))<|ae 3 [] λ _=>RN.retM [d10] [0] [] [] [] ⟨rfl,rfl⟩
 ·exact λ _ _ _ h=>h.elim
theorem HN{c:Nat}(hb:b.size<=1000000)(hl:xs.length<=c)(Vo:xs.length<=1000000)(hq:(q,.rows 1 c (bF xs) 3 (0,0))∈F):aen 375 #[.string b,vS q 0 xs.length c] F (.int .u64 (O3 b xs)):=by
 refine QU Tryz.func375 hq<|OU 10<|aal (Bj b (xs.length:Int) (by assumption))<|OU 12<|aat (σ:=Nat) (λ k=>⟨[(5,.int .u64 (HJ (rY b xs.length) xs k)),(12,vS q 0 xs.length c),(13,vI (xs.length:Int)),(14,vI (k:Int))],[],[],k<=xs.length,xs.length-k⟩) 0 [] [] (aaJ _) ?_;rintro k hI1 Vx;refine OU 6<|aaq ((k:Int)<(xs.length:Int)) 15 (λ h3=>?_) λ h3=>?_
 ·refine ah 16 [.ix k,.rorow 0 k 0] [(0+k*1)=k*1+0/\k<c,(k:Int)=((k:Nat):Int)/\k<xs.length] λ _=>aal (oS (HJ (rY b xs.length) xs k) (u64.wrap (xs.getD k 0)))<|ah 8 [.nw] [aI ((k:Int)+1)] λ _=>Vx (k+1) [] [] ?_
  try dsimp only
  exact⟨by omega,by omega⟩
 ·obtain rfl:k=xs.length:=by omega
  refine OU 9<|aal (oS (HJ (rY b xs.length) xs xs.length) 0)<|ae 3 [] λ _=>QW _ _ ⟨rfl,rfl⟩
structure VR where (M:MemS) (v:Int) (e:Eff) (em:Bool)
def oT:List (Int×Int×Int):=[(0,0,0),(0,1,0),(0,1,16),(1,0,16),(1,1,8),(2,0,8),(0,1,0),(0,1,0),(0,1,0),(2,1,0),(2,1,0),(2,1,0),(2,1,0),(1,1,0),(2,1,0),(2,1,0),(2,1,0),(1,1,0),(0,0,0),(1,0,0),(2,0,0),(0,0,0)]
abbrev eP(op:Int):Int:=(oT.getD op.toNat (0,0,0)).1
abbrev eQ(op:Int):Int:=(oT.getD op.toNat (0,0,0)).2.1
abbrev eN(op:Int):Int:=(oT.getD op.toNat (0,0,0)).2.2
def nQ:Nat->Nat->Value:=λ i k=>match k with|0=>vI (oT.getD i (0,0,0)).1|1=>vI (oT.getD i (0,0,0)).2.1|_=>vI (oT.getD i (0,0,0)).2.2
def qJ(n:Int):Int:=aK n (-2147483647) 2147483647
def j4(b:Bool):Int:=if b=true then 1 else 0
def fe(op n sp:Int):Bool:=if op<1 then false else if op>21 then false else if sp>16 then false else if sp<eP op then false else if aR (aR (sp-eP op)+eQ op)>16 then false else if eN op=0 then true else if n>=0 then decide (n<eN op) else false
def oU(f v:Int):Int:=if f=0 then aK v (-1048576) 1048576 else if f=1 then aK v (-1048576) 1048576 else if f=2 then aK v (-16384) 16384 else if f=3 then aK v (-16384) 16384 else v
abbrev Tw:ByteArray:=⟨#[101,102,102,101,99,116]⟩
def cY(k v:Int)(M:MemS):VR:=if M.get 11>=40 then ⟨M,0,aL,false⟩ else ⟨(M.set 12 (aR ((O3 Tw [M.get 12,M.get 0,k,v]).fdiv 2))).set 11 (aR (M.get 11+1)),0,⟨M.get 0,M.get 11,k,v⟩,true⟩
def dH(S:Setup)(op n a b:Int)(M:MemS):VR :=
 if op=1 then ⟨M,n,aL,false⟩ else if op=2 then ⟨M,M.get (aR (32+n)),aL,false⟩ else if op=6 then ⟨M,M.get 9,aL,false⟩ else if op=7 then ⟨M,M.get 10,aL,false⟩ else if op=8 then ⟨M,M.get 0,aL,false⟩
 else if op=9 then ⟨M,qJ (aR (a+b)),aL,false⟩ else if op=10 then ⟨M,qJ (aR (a-b)),aL,false⟩ else if op=11 then ⟨M,qJ (aR (a*b)),aL,false⟩ else if op=12 then ⟨M,if b=0 then 0 else qJ (aR (a.tdiv b)),aL,false⟩
 else if op=14 then ⟨M,j4 (decide (a<b)),aL,false⟩ else if op=15 then ⟨M,j4 (decide (a<=b)),aL,false⟩ else if op=16 then ⟨M,j4 (decide (a=b)),aL,false⟩
 else if op=13 then ⟨M,qJ (aR (0-a)),aL,false⟩ else if op=17 then ⟨M,j4 (decide (a=0)),aL,false⟩
 else if op=3 then ⟨M.set (aR (32+n)) a,0,aL,false⟩ else if op=4 then ⟨M,if af S a>=0 then M.get (aR (af S a+n)) else 0,aL,false⟩ else if op=5 then ⟨if af S a>=0 then M.set (aR (af S a+n)) (oU n b) else M,0,aL,false⟩
 else if op=18 then ⟨M.set 6 n,0,aL,false⟩ else if op=19 then ⟨if a=0 then M.set 6 n else M,0,aL,false⟩ else if op=20 then ⟨(cY a b M).M,0,(cY a b M).e,(cY a b M).em⟩ else ⟨M,0,aL,false⟩
def pC(op sp:Int)(M:MemS):Int:=if eP op=2 then M.get (aR (aR (16+sp)-eP op)) else if eP op=1 then M.get (aR (aR (16+sp)-eP op)) else 0
def pD(op sp:Int)(M:MemS):Int:=if eP op=2 then M.get (aR (aR (aR (16+sp)-eP op)+1)) else 0
def m5(op sp pc fuel:Int)(M:MemS):MemS:=if eP op=eQ op then (M.set 8 (aR (fuel-1))).set 6 (aR (pc+1)) else ((M.set 8 (aR (fuel-1))).set 6 (aR (pc+1))).set 7 (aR (aR (sp-eP op)+eQ op))
def iE(S:Setup)(op n sp pc fuel:Int)(M:MemS):VR:=dH S op n (pC op sp M) (pD op sp M) (m5 op sp pc fuel M)
def j5(op sp:Int)(r:VR):VR:=if eQ op>0 then ⟨r.M.set (aR (aR (16+sp)-eP op)) r.v,r.v,r.e,r.em⟩ else r
abbrev fC(code:List Ins)(M:MemS):Ins:=code.getD (M.get 6).toNat dIns
def gu(code:List Ins)(n:Nat)(M:MemS):Prop:=¬ M.get 8<1/\¬ M.get 6<0/\¬ M.get 6>=(n:Int)/\fe (fC code M).op (fC code M).n (M.get 7)=true
instance (code:List Ins) (n:Nat) (M:MemS):Decidable (gu code n M):=inferInstanceAs (Decidable (_/\_))
def aj(S:Setup)(code:List Ins)(n:Nat)(M:MemS):VR:=if gu code n M then j5 (fC code M).op (M.get 7) (iE S (fC code M).op (fC code M).n (M.get 7) (M.get 6) (M.get 8) M) else ⟨M,0,aL,false⟩
def cQ(code:List Ins)(n:Nat)(M:MemS):Bool:=if gu code n M then decide ((fC code M).op=21) else true
def aN(e fuel self other:Int)(M:MemS):MemS:=if e<0 then M else ((((M.set 6 e).set 7 0).set 8 fuel).set 9 self).set 10 other
def lF:Enc Ins:=⟨2,λ p k=>match k with|0=>vI p.op|1=>vI p.n|_=>default,dIns⟩
noncomputable def Og:TypeInfo:=match Tryz.prog.info? 212 with | some i=>i | none=>⟨.bool,"",0,0,false,0,0,none,false,#[]⟩
noncomputable def Oh:Value:=match Og.zero with|some z=>z|none=>.bool false
theorem HO:EncOk lF Tryz.prog 212 Og Oh where
 info:=by kernel_rfl
 zero:=by kernel_rfl
 size:=by kernel_rfl
 zsize:=by kernel_rfl
 zcell:=λ k hk=>by
  have h:∀k<2,Oh.cells[k]?=some (lF.cell lF.dflt k):=by intro k hk;(iterate 2 (rcases k with _|k;· kernel_rfl));omega
  exact h k hk
 one:=λ x k=>by unfold lF;dsimp only;split <;> rfl
 bytes:=aaH (by kernel_rfl)
abbrev Rh(l:List Ins):Nat->Nat->Value:=ak lF l
inductive CodeIn(F:HL)(code:List Ins):Option Addr->Nat->Prop
 |nil (A:Option Addr):CodeIn F code A 0
 |mk (b R n:Nat) (h:(b,.rows 2 R (Rh code) 212 (0,0))∈F) (hn:n<=R) (hn2:n<=1000000):CodeIn F code (some ⟨b,0,none⟩) n
theorem CodeIn.up{X:HL}{code:List Ins}{A:Option Addr}{n:Nat}(h:CodeIn F code A n):CodeIn (X++F) code A n:=by
 cases h with
 |nil=>exact .nil _
 |mk b R n h h1 h2=>exact .mk b R n (aaB _ h) h1 h2
abbrev cU(F:HL):Prop:=(1,.rows 3 22 nQ 361 (0,0))∈F
theorem oV:aen 351 #[vI n] F (vI (qJ n)):=by
 refine QT Tryz.func351<|OU 8<|aal (dP n (-2147483647) 2147483647)<|ae 3 [] λ _=>QW _ _ ⟨rfl,rfl⟩
theorem mF(b:Bool):aen 356 #[.bool b] F (vI (j4 b)):=by
 refine QT Tryz.func356<|OU 11<|cP (b) 3 (λ h1=>?_) λ h1=>?_
 ·refine OU 6<|QW (vI 1) [] ⟨?_,rfl⟩
  first|(simp only[j4,if_pos h1];try rfl;done)|rfl
 ·refine OU 8<|QW (vI 0) [] ⟨?_,rfl⟩
  first|(simp only[j4,if_neg h1];try rfl;done)|rfl
theorem EH(f:Int)(v:Int):aen 364 #[vI f,vI v] F (vI (oU f v)):=by
 refine QT Tryz.func364<|OU 19<|aaq (f=0) 6 (λ h1=>?_) λ h1=>?_
 ·refine OU 7<|aal (dP v (-1048576) 1048576)<|OU 3<|QW (vI (aK v (-1048576) 1048576)) [] ⟨?_,rfl⟩
  first|(simp only[oU,if_pos h1];try rfl;done)|rfl
 ·refine OU 6<|aaq (f=1) 6 (λ h2=>?_) λ h2=>?_
  ·refine OU 4<|aal (dP v (-1048576) 1048576)<|OU 3<|QW (vI (aK v (-1048576) 1048576)) [] ⟨?_,rfl⟩
   first|(simp only[oU,if_neg h1,if_pos h2];try rfl;done)|rfl
  ·refine OU 8<|aaq (f=2) 11 (λ h3=>?_) λ h3=>?_
   ·refine OU 7<|aal (dP v (-16384) 16384)<|OU 3<|QW (vI (aK v (-16384) 16384)) [] ⟨?_,rfl⟩
    first|(simp only[oU,if_neg h1,if_neg h2,if_pos h3];try rfl;done)|rfl
   ·refine OU 6<|aaq (f=3) 11 (λ h4=>?_) λ h4=>?_
    ·refine OU 4<|aal (dP v (-16384) 16384)<|OU 3<|QW (vI (aK v (-16384) 16384)) [] ⟨?_,rfl⟩
     first|(simp only[oU,if_neg h1,if_neg h2,if_neg h3,if_pos h4];try rfl;done)|rfl
    ·refine OU 10<|QW (vI v) [] ⟨?_,rfl⟩
     first|(simp only[oU,if_neg h1,if_neg h2,if_neg h3,if_neg h4];try rfl;done)|rfl
end
section
variable {F T:HL} {M:MemS} {k mb:Nat} (a n b:Int)
theorem Mj(op n sp:Int)(hE:cU F):aen 303 #[.agg #[vI op,vI n],vI sp] F (.bool (fe op n sp)):=by
 refine QU Tryz.func303 hE<|ae 13 [.o 0] λ n1=>aaq (op<1) 9 (λ h2=>?_) λ h2=>?_
 ·refine OU 16<|QW (.bool false) [] ⟨?_,rfl⟩
  first|(simp only[fe,if_pos h2];try rfl;done)|rfl
 ·refine SO 5 [.o 0]<|aaq (op>21) 14 (λ h3=>?_) λ h3=>?_
  ·refine OU 11<|QW (.bool false) [] ⟨?_,rfl⟩
   first|(simp only[fe,if_neg h2,if_pos h3];try rfl;done)|rfl
  ·refine OU 5<|aaq (sp>16) 17 (λ h4=>?_) λ h4=>?_
   ·refine OU 6<|QW (.bool false) [] ⟨?_,rfl⟩
    first|(simp only[fe,if_neg h2,if_neg h3,if_pos h4];try rfl;done)|rfl
   ·refine ah 21 [.o 0,.ix ((op).toNat),.rorow 0 ((op).toNat) 0,.rorow 0 ((op).toNat) 1,.rorow 0 ((op).toNat) 2,.o 0,.o 0,.o 0,.o 0] [((0+((op).toNat)*3)+2)=((op).toNat)*3+2/\((op).toNat)<22,((0+((op).toNat)*3)+1)=((op).toNat)*3+1/\((op).toNat)<22,(0+((op).toNat)*3)=((op).toNat)*3+0/\((op).toNat)<22,op=(((op).toNat:Nat):Int)/\(op).toNat<22] λ n5=>aaq (sp<eP op) 26 (λ h6=>?_) λ h6=>?_
    ·refine OU 17<|QW (.bool false) [] ⟨?_,rfl⟩
     first|(simp only[fe,if_neg h2,if_neg h3,if_neg h4,if_pos h6];try rfl;done)|rfl
    ·refine SO 11 (aab 2)<|aaq (i64.wrap ((i64.wrap (sp-(eP op)))+(eQ op))>16) 35 (λ h7=>?_) λ h7=>?_
     ·refine OU 6<|QW (.bool false) [] ⟨?_,rfl⟩
      first|(simp only[fe,if_neg h2,if_neg h3,if_neg h4,if_neg h6,if_pos h7];try rfl;done)|rfl
     ·refine SO 9 [.o 0]<|aaq (eN op=0) 39 (λ h8=>?_) λ h8=>?_
      ·refine OU 14<|QW (.bool true) [] ⟨?_,rfl⟩
       first|(simp only[fe,if_neg h2,if_neg h3,if_neg h4,if_neg h6,if_neg h7,if_pos h8];try rfl;done)|rfl
      ·refine SO 4 [.o 1]<|aaq (n>=0) 43 (λ h9=>?_) λ h9=>?_
       ·refine SO 10 [.o 1,.o 0]<|QW (.bool (decide (n<eN op))) [] ⟨?_,rfl⟩
        first|(simp only[fe,if_neg h2,if_neg h3,if_neg h4,if_neg h6,if_neg h7,if_neg h8,if_pos h9];try rfl;done)|rfl
       ·refine OU 10<|QW (.bool false) [] ⟨?_,rfl⟩
        first|(simp only[fe,if_neg h2,if_neg h3,if_neg h4,if_neg h6,if_neg h7,if_neg h8,if_neg h9];try rfl;done)|rfl
theorem ld1(hM:MemH mb M k T)(hs:∀x∈T,x∈F):aen 345 #[.iface 85 (vP mb 0),vI n] F (vI (n)):=by
 refine QT Tryz.func345<|ae 11 [] λ _=>QW _ _ ⟨rfl,rfl⟩
theorem ld2(hM:MemH mb M k T)(hs:∀x∈T,x∈F):aen 346 #[.iface 85 (vP mb 0),vI n] F (vI (M.get (aR (32+n)))):=by
 refine QT Tryz.func346<|OU 10<|aal (aD (i64.wrap (32+n)) hM λ x hx=>aC (hs x hx))<|ae 3 [] λ _=>QW _ _ ⟨rfl,rfl⟩
theorem ld3(hM:MemH mb M k T)(hs:∀x∈T,x∈F):aen 347 #[.iface 85 (vP mb 0),vI n] F (vI (M.get 9)):=by
 refine QT Tryz.func347<|OU 8<|aal (aD 9 hM λ x hx=>aC (hs x hx))<|ae 3 [] λ _=>QW _ _ ⟨rfl,rfl⟩
theorem ld4(hM:MemH mb M k T)(hs:∀x∈T,x∈F):aen 348 #[.iface 85 (vP mb 0),vI n] F (vI (M.get 10)):=by
 refine QT Tryz.func348<|OU 8<|aal (aD 10 hM λ x hx=>aC (hs x hx))<|ae 3 [] λ _=>QW _ _ ⟨rfl,rfl⟩
theorem ld5(hM:MemH mb M k T)(hs:∀x∈T,x∈F):aen 349 #[.iface 85 (vP mb 0),vI n] F (vI (M.get 0)):=by
 refine QT Tryz.func349<|OU 8<|aal (aD 0 hM λ x hx=>aC (hs x hx))<|ae 3 [] λ _=>QW _ _ ⟨rfl,rfl⟩
theorem Ty:aen 350 #[vI a,vI b] F (vI (qJ (aR (a+b)))):=by
 refine QT Tryz.func350<|OU 10<|aal (oV (i64.wrap (a+b)))<|ae 3 [] λ _=>QW _ _ ⟨rfl,rfl⟩
theorem TA:aen 352 #[vI a,vI b] F (vI (qJ (aR (a-b)))):=by
 refine QT Tryz.func352<|OU 10<|aal (oV (i64.wrap (a-b)))<|ae 3 [] λ _=>QW _ _ ⟨rfl,rfl⟩
theorem TC:aen 353 #[vI a,vI b] F (vI (qJ (aR (a*b)))):=by
 refine QT Tryz.func353<|OU 10<|aal (oV (i64.wrap (a*b)))<|ae 3 [] λ _=>QW _ _ ⟨rfl,rfl⟩
theorem TE:aen 354 #[vI a,vI b] F (vI (if b=0 then 0 else qJ (aR (a.tdiv b)))):=by
 refine QT Tryz.func354<|OU 12<|aaq (b=0) 6 (λ h1=>?_) λ h1=>?_
 ·refine ae 6 [] λ _=>QW (vI 0) _ ⟨by simp[*],rfl⟩
 ·refine ah 8 [.dv] [b≠0] λ _=>aal (oV (i64.wrap (a.tdiv b)))<|ae 3 [] λ _=>QW (vI (qJ (i64.wrap (a.tdiv b)))) _ ⟨by simp[*],rfl⟩
theorem TF:aen 355 #[vI a,vI b] F (vI (j4 (decide (a<b)))):=by
 refine QT Tryz.func355<|OU 10<|aal (mF (decide (a<b)))<|ae 3 [] λ _=>QW _ _ ⟨rfl,rfl⟩
theorem TG:aen 357 #[vI a,vI b] F (vI (j4 (decide (a<=b)))):=by
 refine QT Tryz.func357<|OU 10<|aal (mF (decide (a<=b)))<|ae 3 [] λ _=>QW _ _ ⟨rfl,rfl⟩
theorem TH:aen 358 #[vI a,vI b] F (vI (j4 (decide (a=b)))):=by
 refine QT Tryz.func358<|OU 10<|aal (mF (decide (a=b)))<|ae 3 [] λ _=>QW _ _ ⟨rfl,rfl⟩
theorem un1:aen 359 #[vI a] F (vI (qJ (aR (0-a)))):=by
 refine QT Tryz.func359<|OU 9<|aal (oV (i64.wrap (0-a)))<|ae 3 [] λ _=>QW _ _ ⟨rfl,rfl⟩
theorem un2:aen 360 #[vI a] F (vI (j4 (decide (a=0)))):=by
 refine QT Tryz.func360<|OU 9<|aal (mF (decide (a=0)))<|ae 3 [] λ _=>QW _ _ ⟨rfl,rfl⟩
theorem Ri:aen 329 #[vI 1] F (.func (.func 345) #[] #[]):=by
 refine QT Tryz.func329<|ae 19 (ow 0 11) λ n1=>QW _ _ ⟨rfl,rfl⟩
theorem Rj:aen 329 #[vI 2] F (.func (.func 346) #[] #[]):=by
 refine QT Tryz.func329<|ae 19 (ow 0 11) λ n1=>QW _ _ ⟨rfl,rfl⟩
theorem Rk:aen 329 #[vI 6] F (.func (.func 347) #[] #[]):=by
 refine QT Tryz.func329<|ae 19 (ow 0 11) λ n1=>QW _ _ ⟨rfl,rfl⟩
theorem Rl:aen 329 #[vI 7] F (.func (.func 348) #[] #[]):=by
 refine QT Tryz.func329<|ae 19 (ow 0 11) λ n1=>QW _ _ ⟨rfl,rfl⟩
theorem Rm:aen 329 #[vI 8] F (.func (.func 349) #[] #[]):=by
 refine QT Tryz.func329<|ae 19 (ow 0 11) λ n1=>QW _ _ ⟨rfl,rfl⟩
theorem Rn:aen 330 #[vI 9] F (.func (.func 350) #[] #[]):=by
 refine QT Tryz.func330<|ae 21 (ow 0 15) λ n1=>QW _ _ ⟨rfl,rfl⟩
theorem O4:aen 330 #[vI 10] F (.func (.func 352) #[] #[]):=by
 refine QT Tryz.func330<|ae 21 (ow 0 15) λ n1=>QW _ _ ⟨rfl,rfl⟩
theorem O5:aen 330 #[vI 11] F (.func (.func 353) #[] #[]):=by
 refine QT Tryz.func330<|ae 21 (ow 0 15) λ n1=>QW _ _ ⟨rfl,rfl⟩
theorem O6:aen 330 #[vI 12] F (.func (.func 354) #[] #[]):=by
 refine QT Tryz.func330<|ae 21 (ow 0 15) λ n1=>QW _ _ ⟨rfl,rfl⟩
theorem O7:aen 330 #[vI 14] F (.func (.func 355) #[] #[]):=by
 refine QT Tryz.func330<|ae 21 (ow 0 15) λ n1=>QW _ _ ⟨rfl,rfl⟩
theorem O8:aen 330 #[vI 15] F (.func (.func 357) #[] #[]):=by
 refine QT Tryz.func330<|ae 21 (ow 0 15) λ n1=>QW _ _ ⟨rfl,rfl⟩
theorem O9:aen 330 #[vI 16] F (.func (.func 358) #[] #[]):=by
 refine QT Tryz.func330<|ae 21 (ow 0 15) λ n1=>QW _ _ ⟨rfl,rfl⟩
theorem Pa:aen 331 #[vI 13] F (.func (.func 359) #[] #[]):=by
 refine QT Tryz.func331<|ae 16 (ow 0 5) λ n1=>QW _ _ ⟨rfl,rfl⟩
theorem Pb:aen 331 #[vI 17] F (.func (.func 360) #[] #[]):=by
 refine QT Tryz.func331<|ae 16 (ow 0 5) λ n1=>QW _ _ ⟨rfl,rfl⟩
theorem Rp:aen 332 #[vI 3] F (.func (.func 361) #[] #[]):=by
 refine QT Tryz.func332<|ae 21 (ow 0 15) λ n1=>QW _ _ ⟨rfl,rfl⟩
theorem Rq:aen 332 #[vI 4] F (.func (.func 362) #[] #[]):=by
 refine QT Tryz.func332<|ae 21 (ow 0 15) λ n1=>QW _ _ ⟨rfl,rfl⟩
theorem Rt:aen 332 #[vI 5] F (.func (.func 363) #[] #[]):=by
 refine QT Tryz.func332<|ae 21 (ow 0 15) λ n1=>QW _ _ ⟨rfl,rfl⟩
theorem Pc:aen 332 #[vI 18] F (.func (.func 365) #[] #[]):=by
 refine QT Tryz.func332<|ae 21 (ow 0 15) λ n1=>QW _ _ ⟨rfl,rfl⟩
theorem Pd:aen 332 #[vI 19] F (.func (.func 366) #[] #[]):=by
 refine QT Tryz.func332<|ae 21 (ow 0 15) λ n1=>QW _ _ ⟨rfl,rfl⟩
theorem Pe:aen 332 #[vI 20] F (.func (.func 367) #[] #[]):=by
 refine QT Tryz.func332<|ae 21 (ow 0 15) λ n1=>QW _ _ ⟨rfl,rfl⟩
theorem Pf:aen 332 #[vI 21] F (.func (.func 369) #[] #[]):=by
 refine QT Tryz.func332<|ae 21 (ow 0 15) λ n1=>QW _ _ ⟨rfl,rfl⟩
end
section
variable {F T:HL} {M:MemS} {S:Setup} {mb:Nat} (k:Nat) (n:Int) (A:Option Addr) (cc:Nat) (a e0 b e1 e2:Int)
theorem Pg(kd v:Int)(hM:MemH mb M (k+2) T) :aeo 368 #[.iface 85 (vP mb 0),vI kd,vI v] (ap [] [T]) F (λ u H'=>∃x,H'=ap [] [x]/\(MemH mb ((cY kd v M).M) k x/\u=.tuple #[.agg (aaa (cY kd v M).e).toArray,.bool ((cY kd v M).em)])):=by
 refine QS Tryz.func368 mn<|ae 9 [] λ n1=>aal (aD 11 hM (ay 0))<|OU 10<|aaq (M.get 11>=40) 14 (λ h2=>?_) λ h2=>?_
 ·refine SO 8 (aab 4)<|QV (aab 4) [] [0] (.tuple #[.agg #[vI 0,vI 0,vI 0,vI 0],.bool false]) (ap [] [T]) ⟨T,rfl,?_⟩;refine⟨?_,?_⟩
  ·simp only[cY,if_pos h2];exact hM.weak (by omega)
  ·simp only[cY,if_pos h2]
 ·refine OU 6<|aal (aD 0 hM (ay 0))<|OU 6<|aal (aD 12 hM (ay 0))<|ae 4 [] λ n3=>aao 0 (.rows 1 4 (bF [M.get 12,M.get 0,kd,v]) 3 (0,0))<|aal (HN (⟨#[101,102,102,101,99,116]⟩) (xs:=[M.get 12,M.get 0,kd,v]) (q:=n3+0) (c:=4) (by decide) (aaH rfl) (aaH rfl) (aw 0))<|OU 9<|aam [] [0] (ar 12 (i64.wrap ((O3 (⟨#[101,102,102,101,99,116]⟩) ([M.get 12,M.get 0,kd,v])).fdiv 2)) hM) ?_;rintro _ T4 Ys;refine OU 7<|aam [] [0] (ar 11 (i64.wrap ((M.get 11)+1)) Ys) ?_;rintro _ T6 ZS;refine SO 13 (ow 1 4)<|QV (ow 1 4) [] [0] (.tuple #[.agg #[vI (M.get 0),vI (M.get 11),vI kd,vI v],.bool true]) (ap [] [T6]) ⟨T6,rfl,?_⟩;refine⟨?_,?_⟩
  ·simp only[cY,if_neg h2];exact ZS.weak (by omega)
  ·simp only[cY,if_neg h2]
theorem TI(hM:MemH mb M (k+1) T)(hS:SetN S):aeo 361 #[.iface 85 (vP mb 0),(Setup.v S),.agg #[vI n,vI a,vI b]] (ap [] [T]) F (λ u H'=>∃x,H'=ap [] [x]/\(MemH mb (M.set (aR (32+n)) a) k x/\u=.tuple #[vI 0,.agg #[vI 0,vI 0,vI 0,vI 0],.bool false])):=by
 have h1:=hS.pl;have h2:=hS.nb;refine QS Tryz.func361 mn<|ae 17 [.o 1,.o 1] λ n1=>aam [] [0] (ar (i64.wrap (32+n)) a hM) ?_;rintro _ T2 W0;refine SO 10 (aab 4)<|QV (aab 4) [] [0] (.tuple #[vI 0,.agg #[vI 0,vI 0,vI 0,vI 0],.bool false]) (ap [] [T2]) ⟨T2,rfl,?_⟩;refine⟨?_,?_⟩
 ·first|(simp only[];exact W0.weak (by omega))|exact W0.weak (by omega)
 ·first|rfl|(simp only[];done)|(simp only[];rfl)
theorem TJ(hM:MemH mb M (k+0) T)(hS:SetN S):aeo 362 #[.iface 85 (vP mb 0),(Setup.v S),.agg #[vI n,vI a,vI b]] (ap [] [T]) F (λ u H'=>∃x,H'=ap [] [x]/\(MemH mb (M) k x/\u=.tuple #[vI (if af S a>=0 then M.get (aR (af S a+n)) else 0),.agg #[vI 0,vI 0,vI 0,vI 0],.bool false])):=by
 have h1:=hS.pl;have h2:=hS.nb;refine QS Tryz.func362 mn<|ae 15 (ow 2 16++[.o 1]) λ n1=>aal (dq a hS) ?_;have Ye:=bT hS a;refine OU 9<|aaq (af S a>=0) 15 (λ h3=>?_) λ h3=>?_
 ·refine SO 8 [.o 1]<|aal (aD (i64.wrap ((af S a)+n)) hM (ay 0))<|SO 6 (aab 4)<|QV (aab 4) [] [0] (.tuple #[vI (M.get (i64.wrap ((af S a)+n))),.agg #[vI 0,vI 0,vI 0,vI 0],.bool false]) (ap [] [T]) ⟨T,rfl,?_⟩;refine⟨?_,?_⟩
  ·first|(simp only[if_pos h3];exact hM.weak (by omega))|exact hM.weak (by omega)
  ·first|rfl|(simp only[if_pos h3];done)|(simp only[if_pos h3];rfl)
 ·refine SO 11 (aab 4)<|QV (aab 4) [] [0] (.tuple #[vI 0,.agg #[vI 0,vI 0,vI 0,vI 0],.bool false]) (ap [] [T]) ⟨T,rfl,?_⟩;refine⟨?_,?_⟩
  ·first|(simp only[if_neg h3];exact hM.weak (by omega))|exact hM.weak (by omega)
  ·first|rfl|(simp only[if_neg h3];done)|(simp only[if_neg h3];rfl)
theorem TL(hM:MemH mb M (k+1) T)(hS:SetN S):aeo 363 #[.iface 85 (vP mb 0),(Setup.v S),.agg #[vI n,vI a,vI b]] (ap [] [T]) F (λ u H'=>∃x,H'=ap [] [x]/\(MemH mb (if af S a>=0 then M.set (aR (af S a+n)) (oU n b) else M) k x/\u=.tuple #[vI 0,.agg #[vI 0,vI 0,vI 0,vI 0],.bool false])):=by
 have h1:=hS.pl;have h2:=hS.nb;refine QS Tryz.func363 mn<|ae 15 (ow 2 16++[.o 1]) λ n1=>aal (dq a hS) ?_;have Ye:=bT hS a;refine OU 9<|aaq (af S a>=0) 15 (λ h3=>?_) λ h3=>?_
 ·refine OU 1<|aap [13] []<|ag [] [0,1,2,5,7,3,6,8,10,4,11,12] (ow 1 3)<|aae [] 9 (λ X_=>(EH n b))<|aag 13 (aah [] [] [0] (ar (i64.wrap ((af S a)+n)) (oU n b) hM) ?_);rintro _ T4 Ys;refine aaf<|SO 9 (aab 4)<|QV (aab 4) [] [0] (.tuple #[vI 0,.agg #[vI 0,vI 0,vI 0,vI 0],.bool false]) (ap [] [T4]) ⟨T4,rfl,?_⟩;refine⟨?_,?_⟩
  ·first|(simp only[if_pos h3];exact Ys.weak (by omega))|exact Ys.weak (by omega)
  ·first|rfl|(simp only[if_pos h3];done)|(simp only[if_pos h3];rfl)
 ·refine SO 11 (aab 4)<|QV (aab 4) [] [0] (.tuple #[vI 0,.agg #[vI 0,vI 0,vI 0,vI 0],.bool false]) (ap [] [T]) ⟨T,rfl,?_⟩;refine⟨?_,?_⟩
  ·first|(simp only[if_neg h3];exact hM.weak (by omega))|exact hM.weak (by omega)
  ·first|rfl|(simp only[if_neg h3];done)|(simp only[if_neg h3];rfl)
theorem Ru(hM:MemH mb M (k+1) T)(hS:SetN S):aeo 365 #[.iface 85 (vP mb 0),(Setup.v S),.agg #[vI n,vI a,vI b]] (ap [] [T]) F (λ u H'=>∃x,H'=ap [] [x]/\(MemH mb (M.set 6 n) k x/\u=.tuple #[vI 0,.agg #[vI 0,vI 0,vI 0,vI 0],.bool false])):=by
 have h1:=hS.pl;have h2:=hS.nb;refine QS Tryz.func365 mn<|ae 14 [.o 1] λ n1=>aam [] [0] (ar 6 n hM) ?_;rintro _ T2 W0;refine SO 10 (aab 4)<|QV (aab 4) [] [0] (.tuple #[vI 0,.agg #[vI 0,vI 0,vI 0,vI 0],.bool false]) (ap [] [T2]) ⟨T2,rfl,?_⟩;refine⟨?_,?_⟩
 ·first|(simp only[];exact W0.weak (by omega))|exact W0.weak (by omega)
 ·first|rfl|(simp only[];done)|(simp only[];rfl)
theorem Rx(hM:MemH mb M (k+1) T)(hS:SetN S):aeo 366 #[.iface 85 (vP mb 0),(Setup.v S),.agg #[vI n,vI a,vI b]] (ap [] [T]) F (λ u H'=>∃x,H'=ap [] [x]/\(MemH mb (if a=0 then M.set 6 n else M) k x/\u=.tuple #[vI 0,.agg #[vI 0,vI 0,vI 0,vI 0],.bool false])):=by
 have h1:=hS.pl;have h2:=hS.nb;refine QS Tryz.func366 mn<|ae 17 [.o 1] λ n1=>aaq (a=0) 11 (λ h2=>?_) λ h2=>?_
 ·refine SO 5 [.o 1]<|aam [] [0] (ar 6 n hM) ?_;rintro _ T3 UI;refine SO 10 (aab 4)<|QV (aab 4) [] [0] (.tuple #[vI 0,.agg #[vI 0,vI 0,vI 0,vI 0],.bool false]) (ap [] [T3]) ⟨T3,rfl,?_⟩;refine⟨?_,?_⟩
  ·first|(simp only[if_pos h2];exact UI.weak (by omega))|exact UI.weak (by omega)
  ·first|rfl|(simp only[if_pos h2];done)|(simp only[if_pos h2];rfl)
 ·refine SO 11 (aab 4)<|QV (aab 4) [] [0] (.tuple #[vI 0,.agg #[vI 0,vI 0,vI 0,vI 0],.bool false]) (ap [] [T]) ⟨T,rfl,?_⟩;refine⟨?_,?_⟩
  ·first|(simp only[if_neg h2];exact hM.weak (by omega))|exact hM.weak (by omega)
  ·first|rfl|(simp only[if_neg h2];done)|(simp only[if_neg h2];rfl)
theorem Ry(hM:MemH mb M (k+2) T)(hS:SetN S):aeo 367 #[.iface 85 (vP mb 0),(Setup.v S),.agg #[vI n,vI a,vI b]] (ap [] [T]) F (λ u H'=>∃x,H'=ap [] [x]/\(MemH mb ((cY a b M).M) k x/\u=.tuple #[vI 0,.agg (aaa (cY a b M).e).toArray,.bool ((cY a b M).em)])):=by
 have h1:=hS.pl;have h2:=hS.nb;refine QS Tryz.func367 mn<|ae 16 [.o 1,.o 1] λ n1=>aam [] [0] (Pg k a b hM) ?_;rintro _ T2 ⟨W0,rfl⟩;refine ae 9 (aab 4) λ n4=>aap [3] [0,2,3]<|ag [0,2,3] [0,1,2] (aab 4)<|SV 3 [0,2,3] (ow 1 4)<|ag [0,2,3] [4] []<|Q2 1<|QV (ow 1 4) [] [0] (.tuple #[vI 0,.agg (aaa (cY a b M).e).toArray,.bool ((cY a b M).em)]) (ap [] [T2]) ⟨T2,rfl,?_⟩;refine⟨?_,?_⟩
 ·first|(simp only[];exact W0.weak (by omega))|exact W0.weak (by omega)
 ·first|rfl|(simp only[];done)|(simp only[];rfl)
theorem Rz(hM:MemH mb M (k+0) T)(hS:SetN S):aeo 369 #[.iface 85 (vP mb 0),(Setup.v S),.agg #[vI n,vI a,vI b]] (ap [] [T]) F (λ u H'=>∃x,H'=ap [] [x]/\(MemH mb (M) k x/\u=.tuple #[vI 0,.agg #[vI 0,vI 0,vI 0,vI 0],.bool false])):=by
 have h1:=hS.pl;have h2:=hS.nb;refine QS Tryz.func369 mn<|ae 17 (aab 4) λ n1=>QV (aab 4) [] [0] (.tuple #[vI 0,.agg #[vI 0,vI 0,vI 0,vI 0],.bool false]) (ap [] [T]) ⟨T,rfl,?_⟩;refine⟨?_,?_⟩
 ·first|(simp only[];exact hM.weak (by omega))|exact hM.weak (by omega)
 ·first|rfl|(simp only[];done)|(simp only[];rfl)
theorem HP(op n a b:Int)(hM:MemH mb M (k+2) T)(hS:SetN S)(ho:1<=op/\op<=21):aeo 304 #[vI op,.iface 85 (vP mb 0),(Setup.v S),.agg #[vI n,vI a,vI b]] (ap [] [T]) F (λ u H'=>∃x,H'=ap [] [x]/\(MemH mb ((dH S op n a b M).M) k x/\u=.tuple #[vI ((dH S op n a b M).v),.agg (aaa (dH S op n a b M).e).toArray,.bool ((dH S op n a b M).em)])):=by
 refine QS Tryz.func304 mn<|ae 23 [] λ n1=>aaq (op=1) 12 (λ h2=>?_) λ h2=>?_
 ·subst h2;refine OU 5<|aap [8] [1,2]<|ag [1,2] [0,2,3,6,4] [.o 1]<|aae [1,2] 1 (λ X_=>(Ri))<|aae [1,2] 5 (λ X_=>(ld1 n hM (aY 0)))<|ag [1,2] [7] []<|SV 8 [1,2] (aab 4)<|ag [1,2] [9] []<|aaf<|ae 1 [] λ _=>aav (aab 4) [] [0] ⟨T,rfl,hM.weak (by omega),rfl⟩
 ·refine OU 7<|aaq (op=2) 12 (λ h3=>?_) λ h3=>?_
  ·subst h3;refine OU 5<|aap [8] [1,2]<|ag [1,2] [0,2,3,6,4] [.o 1]<|aae [1,2] 1 (λ X_=>(Rj))<|aae [1,2] 5 (λ X_=>(ld2 n hM (aY 0)))<|ag [1,2] [7] []<|SV 8 [1,2] (aab 4)<|ag [1,2] [9] []<|aaf<|ae 1 [] λ _=>aav (aab 4) [] [0] ⟨T,rfl,hM.weak (by omega),rfl⟩
  ·refine OU 7<|aaq (op=6) 12 (λ h4=>?_) λ h4=>?_
   ·subst h4;refine OU 5<|aap [8] [1,2]<|ag [1,2] [0,2,3,6,4] [.o 1]<|aae [1,2] 1 (λ X_=>(Rk))<|aae [1,2] 5 (λ X_=>(ld3 n hM (aY 0)))<|ag [1,2] [7] []<|SV 8 [1,2] (aab 4)<|ag [1,2] [9] []<|aaf<|ae 1 [] λ _=>aav (aab 4) [] [0] ⟨T,rfl,hM.weak (by omega),rfl⟩
   ·refine OU 7<|aaq (op=7) 12 (λ h5=>?_) λ h5=>?_
    ·subst h5;refine OU 5<|aap [8] [1,2]<|ag [1,2] [0,2,3,6,4] [.o 1]<|aae [1,2] 1 (λ X_=>(Rl))<|aae [1,2] 5 (λ X_=>(ld4 n hM (aY 0)))<|ag [1,2] [7] []<|SV 8 [1,2] (aab 4)<|ag [1,2] [9] []<|aaf<|ae 1 [] λ _=>aav (aab 4) [] [0] ⟨T,rfl,hM.weak (by omega),rfl⟩
    ·refine OU 6<|aaq (op=8) 12 (λ h6=>?_) λ h6=>?_
     ·subst h6;refine OU 2<|aap [8] [1,2]<|ag [1,2] [0,2,3,6,4] [.o 1]<|aae [1,2] 1 (λ X_=>(Rm))<|aae [1,2] 5 (λ X_=>(ld5 n hM (aY 0)))<|ag [1,2] [7] []<|SV 8 [1,2] (aab 4)<|ag [1,2] [9] []<|aaf<|ae 1 [] λ _=>aav (aab 4) [] [0] ⟨T,rfl,hM.weak (by omega),rfl⟩
     ·refine OU 8<|aaq (op=9) 25 (λ h7=>?_) λ h7=>?_
      ·subst h7;refine OU 5<|aap [9] [1,2]<|ag [1,2] [0,2,4,7,3,5] [.o 1,.o 1]<|aae [1,2] 1 (λ X_=>(Rn))<|aae [1,2] 6 (λ X_=>(Ty a b))<|ag [1,2] [8] []<|SV 9 [1,2] (aab 4)<|ag [1,2] [10] []<|aaf<|ae 1 [] λ _=>aav (aab 4) [] [0] ⟨T,rfl,hM.weak (by omega),rfl⟩
      ·refine OU 7<|aaq (op=10) 25 (λ h8=>?_) λ h8=>?_
       ·subst h8;refine OU 5<|aap [9] [1,2]<|ag [1,2] [0,2,4,7,3,5] [.o 1,.o 1]<|aae [1,2] 1 (λ X_=>(O4))<|aae [1,2] 6 (λ X_=>(TA a b))<|ag [1,2] [8] []<|SV 9 [1,2] (aab 4)<|ag [1,2] [10] []<|aaf<|ae 1 [] λ _=>aav (aab 4) [] [0] ⟨T,rfl,hM.weak (by omega),rfl⟩
       ·refine OU 7<|aaq (op=11) 25 (λ h9=>?_) λ h9=>?_
        ·subst h9;refine OU 5<|aap [9] [1,2]<|ag [1,2] [0,2,4,7,3,5] [.o 1,.o 1]<|aae [1,2] 1 (λ X_=>(O5))<|aae [1,2] 6 (λ X_=>(TC a b))<|ag [1,2] [8] []<|SV 9 [1,2] (aab 4)<|ag [1,2] [10] []<|aaf<|ae 1 [] λ _=>aav (aab 4) [] [0] ⟨T,rfl,hM.weak (by omega),rfl⟩
        ·refine OU 7<|aaq (op=12) 25 (λ No=>?_) λ No=>?_
         ·subst No;refine OU 5<|aap [9] [1,2]<|ag [1,2] [0,2,4,7,3,5] [.o 1,.o 1]<|aae [1,2] 1 (λ X_=>(O6))<|aae [1,2] 6 (λ X_=>(TE a b))<|ag [1,2] [8] []<|SV 9 [1,2] (aab 4)<|ag [1,2] [10] []<|aaf<|ae 1 [] λ _=>aav (aab 4) [] [0] ⟨T,rfl,hM.weak (by omega),rfl⟩
         ·refine OU 7<|aaq (op=14) 25 (λ IN=>?_) λ IN=>?_
          ·subst IN;refine OU 5<|aap [9] [1,2]<|ag [1,2] [0,2,4,7,3,5] [.o 1,.o 1]<|aae [1,2] 1 (λ X_=>(O7))<|aae [1,2] 6 (λ X_=>(TF a b))<|ag [1,2] [8] []<|SV 9 [1,2] (aab 4)<|ag [1,2] [10] []<|aaf<|ae 1 [] λ _=>aav (aab 4) [] [0] ⟨T,rfl,hM.weak (by omega),rfl⟩
          ·refine OU 7<|aaq (op=15) 25 (λ H_=>?_) λ H_=>?_
           ·subst H_;refine OU 5<|aap [9] [1,2]<|ag [1,2] [0,2,4,7,3,5] [.o 1,.o 1]<|aae [1,2] 1 (λ X_=>(O8))<|aae [1,2] 6 (λ X_=>(TG a b))<|ag [1,2] [8] []<|SV 9 [1,2] (aab 4)<|ag [1,2] [10] []<|aaf<|ae 1 [] λ _=>aav (aab 4) [] [0] ⟨T,rfl,hM.weak (by omega),rfl⟩
           ·refine OU 6<|aaq (op=16) 25 (λ U8=>?_) λ U8=>?_
            ·subst U8;refine OU 2<|aap [9] [1,2]<|ag [1,2] [0,2,4,7,3,5] [.o 1,.o 1]<|aae [1,2] 1 (λ X_=>(O9))<|aae [1,2] 6 (λ X_=>(TH a b))<|ag [1,2] [8] []<|SV 9 [1,2] (aab 4)<|ag [1,2] [10] []<|aaf<|ae 1 [] λ _=>aav (aab 4) [] [0] ⟨T,rfl,hM.weak (by omega),rfl⟩
            ·refine OU 8<|aaq (op=13) 41 (λ Vu=>?_) λ Vu=>?_
             ·subst Vu;refine OU 5<|aap [7] [1,2]<|ag [1,2] [0,2,5,3] [.o 1]<|aae [1,2] 1 (λ X_=>(Pa))<|aae [1,2] 4 (λ X_=>(un1 a))<|ag [1,2] [6] []<|SV 7 [1,2] (aab 4)<|ag [1,2] [8] []<|aaf<|ae 1 [] λ _=>aav (aab 4) [] [0] ⟨T,rfl,hM.weak (by omega),rfl⟩
             ·refine OU 6<|aaq (op=17) 41 (λ Wg=>?_) λ Wg=>?_
              ·subst Wg;refine OU 2<|aap [7] [1,2]<|ag [1,2] [0,2,5,3] [.o 1]<|aae [1,2] 1 (λ X_=>(Pb))<|aae [1,2] 4 (λ X_=>(un2 a))<|ag [1,2] [6] []<|SV 7 [1,2] (aab 4)<|ag [1,2] [8] []<|aaf<|ae 1 [] λ _=>aav (aab 4) [] [0] ⟨T,rfl,hM.weak (by omega),rfl⟩
              ·refine ae 5 [] λ _=>?_;have h7:op=3\/op=4\/op=5\/op=18\/op=19\/op=20\/op=21:=by omega
               rcases h7 with rfl|rfl|rfl|rfl|rfl|rfl|rfl
               ·refine aap [5,10] []<|ag [] [0,2,3,4] (ow 2 16++(ow 1 3))<|aae [] 1 (λ X_=>(Rp))<|aag 5 (aah [] [] [0] (TI (k+1) n a b hM hS) ?_);rintro _ YX ⟨Yf,rfl⟩;refine aem [6,7,8,9]<|SV 10 [] (aab 4)<|aem [11]<|aaf<|ae 1 [] λ _=>aav (aab 4) [] [0] ⟨YX,rfl,Yf.weak (by omega),rfl⟩
               ·refine aap [5,10] []<|ag [] [0,2,3,4] (ow 2 16++(ow 1 3))<|aae [] 1 (λ X_=>(Rq))<|aag 5 (aah [] [] [0] (TJ (k+2) n a b hM hS) ?_);rintro _ T18 ⟨ZU,rfl⟩;refine aem [6,7,8,9]<|SV 10 [] (aab 4)<|aem [11]<|aaf<|ae 1 [] λ _=>aav (aab 4) [] [0] ⟨T18,rfl,ZU.weak (by omega),rfl⟩
               ·refine aap [5,10] []<|ag [] [0,2,3,4] (ow 2 16++(ow 1 3))<|aae [] 1 (λ X_=>(Rt))<|aag 5 (aah [] [] [0] (TL (k+1) n a b hM hS) ?_);rintro _ YW ⟨ZT,rfl⟩;refine aem [6,7,8,9]<|SV 10 [] (aab 4)<|aem [11]<|aaf<|ae 1 [] λ _=>aav (aab 4) [] [0] ⟨YW,rfl,ZT.weak (by omega),rfl⟩
               ·refine aap [5,10] []<|ag [] [0,2,3,4] (ow 2 16++(ow 1 3))<|aae [] 1 (λ X_=>(Pc))<|aag 5 (aah [] [] [0] (Ru (k+1) n a b hM hS) ?_);rintro _ T22 ⟨adp,rfl⟩;refine aem [6,7,8,9]<|SV 10 [] (aab 4)<|aem [11]<|aaf<|ae 1 [] λ _=>aav (aab 4) [] [0] ⟨T22,rfl,adp.weak (by omega),rfl⟩
               ·refine aap [5,10] []<|ag [] [0,2,3,4] (ow 2 16++(ow 1 3))<|aae [] 1 (λ X_=>(Pd))<|aag 5 (aah [] [] [0] (Rx (k+1) n a b hM hS) ?_);rintro _ T24 ⟨ake,rfl⟩;refine aem [6,7,8,9]<|SV 10 [] (aab 4)<|aem [11]<|aaf<|ae 1 [] λ _=>aav (aab 4) [] [0] ⟨T24,rfl,ake.weak (by omega),rfl⟩
               ·refine aap [5,10] []<|ag [] [0,2,3,4] (ow 2 16++(ow 1 3))<|aae [] 1 (λ X_=>(Pe))<|aag 5 (aah [] [] [0] (Ry k n a b hM hS) ?_);rintro _ T26 ⟨akd,rfl⟩;refine aem [6,7,8,9]<|SV 10 [] (aab 4)<|aem [11]<|aaf<|ae 1 [] λ _=>aav (aab 4) [] [0] ⟨T26,rfl,akd.weak (by omega),rfl⟩
               ·refine aap [5,10] []<|ag [] [0,2,3,4] (ow 2 16++(ow 1 3))<|aae [] 1 (λ X_=>(Pf))<|aag 5 (aah [] [] [0] (Rz (k+2) n a b hM hS) ?_);rintro _ T28 ⟨akc,rfl⟩;refine aem [6,7,8,9]<|SV 10 [] (aab 4)<|aem [11]<|aaf<|ae 1 [] λ _=>aav (aab 4) [] [0] ⟨T28,rfl,akc.weak (by omega),rfl⟩
theorem HQ(n c:Nat)(e0 e1 e2 a b d:Int)(hM:MemH mb M (k+5) T) :aeo 274 #[.iface 85 (vP mb 0),.agg #[.slice A n c,vI e0,vI e1,vI e2],vI 0,vI a,vI b,vI d] (ap [] [T]) F (λ u H'=>∃x,H'=ap [] [x]/\(MemH mb (aN e0 d a b M) k x/\u=.bool (!(decide (e0<0))))):=by
 refine QS Tryz.func274 mn<|ae 28 [.o 0] λ n1=>aaq (e0<0) 29 (λ h2=>?_) λ h2=>?_
 ·refine OU 6<|QV [] [] [0] (.bool false) (ap [] [T]) ⟨T,rfl,?_⟩;refine⟨?_,?_⟩
  ·simp only[aN,if_pos h2];exact hM.weak (by omega)
  ·rw[abk h2];rfl
 ·refine OU 4<|aap [8] []<|ag [] [0,1,2,3,5,4,6,7] [.o 0]<|aag 8 (aah [] [] [0] (ar 6 e0 hM) ?_);rintro _ T3 UI;refine Q2 4<|aam [] [0] (ar 7 0 UI) ?_;rintro _ T5 VJ;refine OU 6<|aam [] [0] (ar 8 d VJ) ?_;rintro _ T7 Xd;refine OU 6<|aam [] [0] (ar 9 a Xd) ?_;rintro _ T9 W4;refine OU 6<|aam [] [0] (ar 10 b W4) ?_;rintro _ UQ Ve;refine OU 7<|QV [] [] [0] (.bool true) (ap [] [UQ]) ⟨UQ,rfl,?_⟩;refine⟨?_,?_⟩
  ·simp only[aN,if_neg h2];exact Ve.weak (by omega)
  ·rw[abh h2];rfl
theorem HS(n c:Nat)(e0 e1 e2 a b d:Int)(hM:MemH mb M (k+5) T) :aeo 274 #[.iface 85 (vP mb 0),.agg #[.slice A n c,vI e0,vI e1,vI e2],vI 1,vI a,vI b,vI d] (ap [] [T]) F (λ u H'=>∃x,H'=ap [] [x]/\(MemH mb (aN e1 d a b M) k x/\u=.bool (!(decide (e1<0))))):=by
 refine QS Tryz.func274 mn<|ae 28 [.o 0] λ n1=>aaq (e1<0) 29 (λ h2=>?_) λ h2=>?_
 ·refine OU 6<|QV [] [] [0] (.bool false) (ap [] [T]) ⟨T,rfl,?_⟩;refine⟨?_,?_⟩
  ·simp only[aN,if_pos h2];exact hM.weak (by omega)
  ·rw[abk h2];rfl
 ·refine OU 4<|aap [8] []<|ag [] [0,1,2,3,5,4,6,7] [.o 0]<|aag 8 (aah [] [] [0] (ar 6 e1 hM) ?_);rintro _ T3 UI;refine Q2 4<|aam [] [0] (ar 7 0 UI) ?_;rintro _ T5 VJ;refine OU 6<|aam [] [0] (ar 8 d VJ) ?_;rintro _ T7 Xd;refine OU 6<|aam [] [0] (ar 9 a Xd) ?_;rintro _ T9 W4;refine OU 6<|aam [] [0] (ar 10 b W4) ?_;rintro _ UQ Ve;refine OU 7<|QV [] [] [0] (.bool true) (ap [] [UQ]) ⟨UQ,rfl,?_⟩;refine⟨?_,?_⟩
  ·simp only[aN,if_neg h2];exact Ve.weak (by omega)
  ·rw[abh h2];rfl
theorem HT(n c:Nat)(e0 e1 e2 a b d:Int)(hM:MemH mb M (k+5) T) :aeo 274 #[.iface 85 (vP mb 0),.agg #[.slice A n c,vI e0,vI e1,vI e2],vI 2,vI a,vI b,vI d] (ap [] [T]) F (λ u H'=>∃x,H'=ap [] [x]/\(MemH mb (aN e2 d a b M) k x/\u=.bool (!(decide (e2<0))))):=by
 refine QS Tryz.func274 mn<|ae 28 [.o 0] λ n1=>aaq (e2<0) 29 (λ h2=>?_) λ h2=>?_
 ·refine OU 6<|QV [] [] [0] (.bool false) (ap [] [T]) ⟨T,rfl,?_⟩;refine⟨?_,?_⟩
  ·simp only[aN,if_pos h2];exact hM.weak (by omega)
  ·rw[abk h2];rfl
 ·refine OU 4<|aap [8] []<|ag [] [0,1,2,3,5,4,6,7] [.o 0]<|aag 8 (aah [] [] [0] (ar 6 e2 hM) ?_);rintro _ T3 UI;refine Q2 4<|aam [] [0] (ar 7 0 UI) ?_;rintro _ T5 VJ;refine OU 6<|aam [] [0] (ar 8 d VJ) ?_;rintro _ T7 Xd;refine OU 6<|aam [] [0] (ar 9 a Xd) ?_;rintro _ T9 W4;refine OU 6<|aam [] [0] (ar 10 b W4) ?_;rintro _ UQ Ve;refine OU 7<|QV [] [] [0] (.bool true) (ap [] [UQ]) ⟨UQ,rfl,?_⟩;refine⟨?_,?_⟩
  ·simp only[aN,if_neg h2];exact Ve.weak (by omega)
  ·rw[abh h2];rfl
theorem HU{op n sp:Int}(h:fe op n sp=true):1<=op/\op<=21:=by
 unfold fe at h
 by_cases h1:op<1
 ·rw[if_pos h1] at h;cases h
 ·rw[if_neg h1] at h
  by_cases h2:op>21
  ·rw[if_pos h2] at h;cases h
  ·omega
theorem Bk{code:List Ins}{b R n:Nat}(hM:MemH mb M (k+6) T)(hS:SetN S)(hE:cU F)(hc:(b,.rows 2 R (Rh code) 212 (0,0))∈F)(hnR:n<=R)(hn2:n<=1000000):aeo 275 #[.iface 85 (vP mb 0),(Setup.v S),.agg #[vS b 0 n cc,vI e0,vI e1,vI e2]] (ap [] [T]) F (λ u H'=>∃x,H'=ap [] [x]/\(MemH mb ((aj S code n M).M) k x/\u=.tuple #[.bool (cQ code n M),.agg (aaa (aj S code n M).e).toArray,.bool ((aj S code n M).em)])):=by
 refine QS Tryz.func275 (mc hc (mc hE mn))<|ae 22 [] λ n1=>aal (aD 6 hM (ay 0))<|OU 1<|aal (aD 7 hM (ay 0))<|OU 1<|aal (aD 8 hM (ay 0))<|OU 11<|aaq (M.get 8<1) 29 (λ h2=>?_) λ h2=>?_
 ·refine SO 31 (aab 4)<|QV (aab 4) [] [0] (.tuple #[.bool true,.agg #[vI 0,vI 0,vI 0,vI 0],.bool false]) (ap [] [T]) ⟨T,rfl,?_⟩;have hr:¬ gu code n M:=λ Vg=>Vg.1 h2;refine⟨?_,?_⟩
  ·simp only[aj,cQ,if_neg hr];exact hM.weak (by omega)
  ·first|(simp only[aj,cQ,if_neg hr];try rfl;done)
 ·refine OU 4<|aaq (M.get 6<0) 33 (λ h3=>?_) λ h3=>?_
  ·refine SO 27 (aab 4)<|QV (aab 4) [] [0] (.tuple #[.bool true,.agg #[vI 0,vI 0,vI 0,vI 0],.bool false]) (ap [] [T]) ⟨T,rfl,?_⟩;have hr:¬ gu code n M:=λ Vg=>Vg.2.1 h3;refine⟨?_,?_⟩
   ·simp only[aj,cQ,if_neg hr];exact hM.weak (by omega)
   ·first|(simp only[aj,cQ,if_neg hr];try rfl;done)
  ·refine SO 7 [.o 1]<|aaq (M.get 6>=(n:Int)) 40 (λ h4=>?_) λ h4=>?_
   ·refine SO 20 (aab 4)<|QV (aab 4) [] [0] (.tuple #[.bool true,.agg #[vI 0,vI 0,vI 0,vI 0],.bool false]) (ap [] [T]) ⟨T,rfl,?_⟩;have hr:¬ gu code n M:=λ Vg=>Vg.2.2.1 h4;refine⟨?_,?_⟩
    ·simp only[aj,cQ,if_neg hr];exact hM.weak (by omega)
    ·first|(simp only[aj,cQ,if_neg hr];try rfl;done)
   ·refine ah 6 [.o 1,.ix ((M.get 6).toNat),.rorow 0 ((M.get 6).toNat) 0,.rorow 0 ((M.get 6).toNat) 1] [((0+((M.get 6).toNat)*2)+1)=((M.get 6).toNat)*2+1/\((M.get 6).toNat)<R,(0+((M.get 6).toNat)*2)=((M.get 6).toNat)*2+0/\((M.get 6).toNat)<R,M.get 6=(((M.get 6).toNat:Nat):Int)/\(M.get 6).toNat<n] λ _=>aal (Mj ((code.getD ((M.get 6).toNat) dIns).op) ((code.getD ((M.get 6).toNat) dIns).n) (M.get 7) (aC hE))<|OU 4<|oK (fe ((code.getD ((M.get 6).toNat) dIns).op) ((code.getD ((M.get 6).toNat) dIns).n) (M.get 7)) 49 (λ h5=>?_) λ h5=>?_
    ·have ho:=HU h5;refine ah 15 [.o 1,.ix ((M.get 6).toNat),.rorow 0 ((M.get 6).toNat) 0,.rorow 0 ((M.get 6).toNat) 1,.o 0,.o 0] [((0+((M.get 6).toNat)*2)+1)=((M.get 6).toNat)*2+1/\((M.get 6).toNat)<R,(0+((M.get 6).toNat)*2)=((M.get 6).toNat)*2+0/\((M.get 6).toNat)<R,M.get 6=(((M.get 6).toNat:Nat):Int)/\(M.get 6).toNat<n] λ n6=>aap [] []<|aA [] [0,5,1,6,2,7,3,8,4,9,10,11] [.o 0,.o 0,.ix (((code.getD ((M.get 6).toNat) dIns).op).toNat),.ix (((code.getD ((M.get 6).toNat) dIns).op).toNat),.rorow 1 (((code.getD ((M.get 6).toNat) dIns).op).toNat) 0,.rorow 1 (((code.getD ((M.get 6).toNat) dIns).op).toNat) 1] [((0+(((code.getD ((M.get 6).toNat) dIns).op).toNat)*3)+1)=(((code.getD ((M.get 6).toNat) dIns).op).toNat)*3+1/\(((code.getD ((M.get 6).toNat) dIns).op).toNat)<22,(0+(((code.getD ((M.get 6).toNat) dIns).op).toNat)*3)=(((code.getD ((M.get 6).toNat) dIns).op).toNat)*3+0/\(((code.getD ((M.get 6).toNat) dIns).op).toNat)<22,(code.getD ((M.get 6).toNat) dIns).op=((((code.getD ((M.get 6).toNat) dIns).op).toNat:Nat):Int)/\((code.getD ((M.get 6).toNat) dIns).op).toNat<22,(code.getD ((M.get 6).toNat) dIns).op=((((code.getD ((M.get 6).toNat) dIns).op).toNat:Nat):Int)/\((code.getD ((M.get 6).toNat) dIns).op).toNat<22]<|aaf<|ae 20 (aab 4) λ n7=>aan (σ:=Ins×Int×Int) (λ ⟨x_,a_,b_⟩=>⟨[(0,.iface 85 (vP mb 0)),(4,vP (n1+0) 0),(7,vP (n1+2) 0),(9,vI (M.get 6)),(10,vI (M.get 7)),(11,vI (M.get 8)),(12,vP (n6+0) 0),(13,vI (eP x_.op)),(14,vI (eQ x_.op)),(15,vP (n7+0) 0)],[((n7+0),.lit [vI x_.n,vI a_,vI b_] 363 (0,0)),((n6+0),.lit [vI x_.op,vI x_.n] 212 (0,0)),((n1+2),.lit [vI 0,vI 0,vI 0,vI 0] 177 (0,0)),((n1+1),.lit [vS b 0 n cc,vI e0,vI e1,vI e2] 111 (0,0)),((n1+0),.lit (Setup.l S) 34 (0,0))],[T],x_=fC code M/\a_=pC x_.op (M.get 7) M/\b_=pD x_.op (M.get 7) M,0⟩) ?_ ?_
     ·intro Zd;refine OU 18<|aaq (eP ((code.getD ((M.get 6).toNat) dIns).op)=2) 74 (λ h9=>?_) λ h9=>?_
      ·refine OU 10<|aal (aD (i64.wrap ((i64.wrap ((i64.wrap (16+(M.get 7)))-(eP ((code.getD ((M.get 6).toNat) dIns).op))))+1)) hM (ay 0))<|SO 9 [.o 0]<|aal (aD (i64.wrap ((i64.wrap (16+(M.get 7)))-(eP ((code.getD ((M.get 6).toNat) dIns).op)))) hM (ay 0))<|ae 6 [.o 0] λ _=>Zd ((code.getD (M.get 6).toNat dIns),M.get (i64.wrap ((i64.wrap (16+(M.get 7)))-(eP ((code.getD ((M.get 6).toNat) dIns).op)))),M.get (i64.wrap ((i64.wrap ((i64.wrap (16+(M.get 7)))-(eP ((code.getD ((M.get 6).toNat) dIns).op))))+1))) [0,1,2,3,4] [0] ?_
       try dsimp only
       refine⟨rfl,?_,?_⟩
       ·first|(simp only[pC,if_pos h9];try rfl;done)|rfl
       ·first|(simp only[pD,if_pos h9];try rfl;done)|rfl
      ·refine OU 9<|aaq (eP ((code.getD ((M.get 6).toNat) dIns).op)=1) 76 (λ No=>?_) λ No=>?_
       ·refine OU 11<|aal (aD (i64.wrap ((i64.wrap (16+(M.get 7)))-(eP ((code.getD ((M.get 6).toNat) dIns).op)))) hM (ay 0))<|ae 6 [.o 0] λ _=>Zd ((code.getD (M.get 6).toNat dIns),M.get (i64.wrap ((i64.wrap (16+(M.get 7)))-(eP ((code.getD ((M.get 6).toNat) dIns).op)))),0) [0,1,2,3,4] [0] ?_
        try dsimp only
        refine⟨rfl,?_,?_⟩
        ·first|(simp only[pC,if_neg h9,if_pos No];try rfl;done)|rfl
        ·first|(simp only[pD,if_neg h9,if_pos No];try rfl;done)|rfl
       ·refine ae 9 [] λ _=>Zd ((code.getD (M.get 6).toNat dIns),0,0) [0,1,2,3,4] [0] ?_
        try dsimp only
        refine⟨rfl,?_,?_⟩
        ·first|(simp only[pC,if_neg h9,if_neg No];try rfl;done)|rfl
        ·first|(simp only[pD,if_neg h9,if_neg No];try rfl;done)|rfl
     ·rintro⟨x_,a_,b_⟩ ⟨UD,ha_,hb_⟩;have apn:1<=x_.op/\x_.op<=21:=by rw[UD];exact ho
      refine OU 6<|aam [] [0] (ar 8 (i64.wrap ((M.get 8)-1)) hM) ?_;rintro _ UQ Ve;refine OU 7<|aam [] [0] (ar 6 (i64.wrap ((M.get 6)+1)) Ve) ?_;rintro _ WC Vt;refine OU 3<|aan (σ:=MemS×HL) (λ ⟨Yh,Tp_⟩=>⟨[(0,.iface 85 (vP mb 0)),(4,vP (n1+0) 0),(7,vP (n1+2) 0),(10,vI (M.get 7)),(12,vP (n6+0) 0),(13,vI (eP x_.op)),(14,vI (eQ x_.op)),(15,vP (n7+0) 0)],[((n7+0),.lit [vI x_.n,vI a_,vI b_] 363 (0,0)),((n6+0),.lit [vI x_.op,vI x_.n] 212 (0,0)),((n1+2),.lit [vI 0,vI 0,vI 0,vI 0] 177 (0,0)),((n1+1),.lit [vS b 0 n cc,vI e0,vI e1,vI e2] 111 (0,0)),((n1+0),.lit (Setup.l S) 34 (0,0))],[Tp_],Yh=m5 x_.op (M.get 7) (M.get 6) (M.get 8) M/\MemH mb Yh (k+3) Tp_,0⟩) ?_ ?_
      ·intro Xj;refine OU 7<|aar (eP x_.op=eQ x_.op) 97 (λ U4=>?_) λ U4=>?_
       ·refine ae 2 [] λ _=>Xj (((M.set 8 (i64.wrap ((M.get 8)-1))).set 6 (i64.wrap ((M.get 6)+1))),WC) [0,1,2,3,4] [0] ?_
        try dsimp only
        refine⟨?_,Vt.weak (by omega)⟩
        first|(simp only[m5,if_pos U4];try rfl;done)|rfl
       ·refine OU 8<|aam [] [0] (ar 7 (i64.wrap ((i64.wrap ((M.get 7)-(eP x_.op)))+(eQ x_.op))) Vt) ?_;rintro _ W6 adr;refine ae 1 [] λ _=>Xj ((((M.set 8 (i64.wrap ((M.get 8)-1))).set 6 (i64.wrap ((M.get 6)+1))).set 7 (i64.wrap ((i64.wrap ((M.get 7)-(eP x_.op)))+(eQ x_.op)))),W6) [0,1,2,3,4] [0] ?_
        try dsimp only
        refine⟨?_,adr.weak (by omega)⟩
        first|(simp only[m5,if_neg U4];try rfl;done)|rfl
      ·rintro⟨Yh,Tp_⟩ ⟨Y1,aj_⟩;refine ae 8 ([.o 1]++ow 4 16++(aab 3)) λ _=>aam [] [0] (HP (k+1) x_.op x_.n a_ b_ aj_ hS (by assumption)) ?_;rintro _ T19 ⟨YR,rfl⟩;refine SO 16 (ow 2 4)<|aaq (eQ x_.op>0) 116 (λ Xy=>?_) λ Xy=>?_
       ·refine OU 8<|aam [] [0] (ar (i64.wrap ((i64.wrap (16+(M.get 7)))-(eP x_.op))) ((dH S x_.op x_.n a_ b_ Yh).v) YR) ?_;rintro _ T22 adp;refine OU 3<|aap [6] [0,1,3,4]<|ag [0,1,3,4] [0,3,4,1,2,5] (ow 2 4++[.o 1])<|SV 6 [0,1,3,4] (ow 2 4)<|ag [0,1,3,4] [7] []<|Q2 1<|QV (ow 2 4) [] [0] (.tuple #[.bool (decide (x_.op=21)),.agg (aaa (dH S x_.op x_.n a_ b_ Yh).e).toArray,.bool ((dH S x_.op x_.n a_ b_ Yh).em)]) (ap [] [T22]) ⟨T22,rfl,?_⟩;have hr:gu code n M:=⟨h2,h3,h4,h5⟩;refine⟨?_,?_⟩
        ·simp only[aj,cQ,if_pos hr,j5,iE,<- UD,<- ha_,<- hb_,<- Y1,if_pos Xy];exact adp.weak (by omega)
        ·first|(simp only[aj,cQ,if_pos hr,j5,iE,<- UD,<- ha_,<- hb_,<- Y1,if_pos Xy];try rfl;done)
       ·refine OU 4<|aap [6] [0,1,3,4]<|ag [0,1,3,4] [0,3,4,1,2,5] (ow 2 4++[.o 1])<|SV 6 [0,1,3,4] (ow 2 4)<|ag [0,1,3,4] [7] []<|Q2 1<|QV (ow 2 4) [] [0] (.tuple #[.bool (decide (x_.op=21)),.agg (aaa (dH S x_.op x_.n a_ b_ Yh).e).toArray,.bool ((dH S x_.op x_.n a_ b_ Yh).em)]) (ap [] [T19]) ⟨T19,rfl,?_⟩;have hr:gu code n M:=⟨h2,h3,h4,h5⟩;refine⟨?_,?_⟩
        ·simp only[aj,cQ,if_pos hr,j5,iE,<- UD,<- ha_,<- hb_,<- Y1,if_neg Xy];exact YR.weak (by omega)
        ·first|(simp only[aj,cQ,if_pos hr,j5,iE,<- UD,<- ha_,<- hb_,<- Y1,if_neg Xy];try rfl;done)
    ·refine SO 9 (aab 4)<|QV (aab 4) [] [0] (.tuple #[.bool true,.agg #[vI 0,vI 0,vI 0,vI 0],.bool false]) (ap [] [T]) ⟨T,rfl,?_⟩;have hr:¬ gu code n M:=λ Vg=>h5 Vg.2.2.2;refine⟨?_,?_⟩
     ·simp only[aj,cQ,if_neg hr];exact hM.weak (by omega)
     ·first|(simp only[aj,cQ,if_neg hr];try rfl;done)
theorem EI(S:Setup)(code:List Ins)(A:Option Addr)(cc:Nat)(e0 e1 e2:Int)(F:HL)(hM:MemH mb M (k+6) T) :aeo 275 #[.iface 85 (vP mb 0),(Setup.v S),.agg #[.slice A 0 cc,vI e0,vI e1,vI e2]] (ap [] [T]) F (λ u H'=>∃x,H'=ap [] [x]/\(MemH mb ((aj S code 0 M).M) k x/\u=.tuple #[.bool (cQ code 0 M),.agg (aaa (aj S code 0 M).e).toArray,.bool ((aj S code 0 M).em)])):=by
 refine QS Tryz.func275 mn<|ae 22 [] λ n1=>aal (aD 6 hM (ay 0))<|OU 1<|aal (aD 7 hM (ay 0))<|OU 1<|aal (aD 8 hM (ay 0))<|OU 11<|aaq (M.get 8<1) 29 (λ h2=>?_) λ h2=>?_
 ·refine SO 31 (aab 4)<|QV (aab 4) [] [0] (.tuple #[.bool true,.agg #[vI 0,vI 0,vI 0,vI 0],.bool false]) (ap [] [T]) ⟨T,rfl,?_⟩;have hr:¬ gu code 0 M:=λ Vg=>Vg.1 h2;refine⟨?_,?_⟩
  ·simp only[aj,cQ,if_neg hr];exact hM.weak (by omega)
  ·first|(simp only[aj,cQ,if_neg hr];try rfl;done)
 ·refine OU 4<|aaq (M.get 6<0) 33 (λ h3=>?_) λ h3=>?_
  ·refine SO 27 (aab 4)<|QV (aab 4) [] [0] (.tuple #[.bool true,.agg #[vI 0,vI 0,vI 0,vI 0],.bool false]) (ap [] [T]) ⟨T,rfl,?_⟩;have hr:¬ gu code 0 M:=λ Vg=>Vg.2.1 h3;refine⟨?_,?_⟩
   ·simp only[aj,cQ,if_neg hr];exact hM.weak (by omega)
   ·first|(simp only[aj,cQ,if_neg hr];try rfl;done)
  ·refine SO 7 [.o 1]<|aaq (M.get 6>=0) 40 (λ h4=>?_) λ h4=>?_
   ·refine SO 20 (aab 4)<|QV (aab 4) [] [0] (.tuple #[.bool true,.agg #[vI 0,vI 0,vI 0,vI 0],.bool false]) (ap [] [T]) ⟨T,rfl,?_⟩;have hr:¬ gu code 0 M:=λ Vg=>Vg.2.2.1 (by simpa using h4);refine⟨?_,?_⟩
    ·simp only[aj,cQ,if_neg hr];exact hM.weak (by omega)
    ·first|(simp only[aj,cQ,if_neg hr];try rfl;done)
   ·exact absurd (show M.get 6>=0 by omega) h4
theorem iU{code:List Ins}{A:Option Addr}{n:Nat}(hM:MemH mb M (k+6) T)(hS:SetN S)(hE:cU F)(hc:CodeIn F code A n):aeo 275 #[.iface 85 (vP mb 0),(Setup.v S),.agg #[.slice A n cc,vI e0,vI e1,vI e2]] (ap [] [T]) F (λ u H'=>∃x,H'=ap [] [x]/\(MemH mb (aj S code n M).M k x/\u=.tuple #[.bool (cQ code n M),.agg (aaa (aj S code n M).e).toArray,.bool ((aj S code n M).em)])):=by
 cases hc with
 |nil=>exact EI k S code A cc e0 e1 e2 F hM
 |mk b R n h h1 h2=>exact Bk k cc e0 e1 e2 hM hS hE h h1 h2
end
section
variable {F T:HL} {M:MemS} {mb:Nat} (t:Stp) (a b:Int) (tb k:Nat)
def VR.z(r:VR):VR:=⟨r.M,0,r.e,r.em⟩
abbrev Stp.f(t:Stp):Eff:=⟨t.f0,t.f1,t.f2,t.f3⟩
def Stp.upd(t:Stp)(r:VR):Stp:={ t with f0:=r.e.t,f1:=r.e.i,f2:=r.e.k,f3:=r.e.v,emitted:=r.em }
def eH(e:Int)(t:Stp)(self other:Int)(M:MemS):VR:=if t.j=0 then (if e<0 then ⟨aN e t.S.fuel self other M,0,t.f,t.emitted⟩ else ⟨(aN e t.S.fuel self other M).set 3 1,0,t.f,t.emitted⟩) else ⟨(aj t.S t.code t.cn M).M,0,(aj t.S t.code t.cn M).e,(aj t.S t.code t.cn M).em⟩
def dt(e:Int)(t:Stp)(self other:Int)(M:MemS):Bool:=if t.j=0 then decide (e<0) else cQ t.code t.cn M
abbrev bU(t:Stp)(a b:Int)(M:MemS):VR:=eH t.e0 t a b M
abbrev cZ(t:Stp)(a b:Int)(M:MemS):VR:=eH t.e1 t a b M
abbrev bV(t:Stp)(a b:Int)(M:MemS):VR:=eH t.e2 t a b M
abbrev jv(t:Stp)(a b:Int)(M:MemS):Bool:=dt t.e0 t a b M
abbrev j6(t:Stp)(a b:Int)(M:MemS):Bool:=dt t.e1 t a b M
abbrev jx(t:Stp)(a b:Int)(M:MemS):Bool:=dt t.e2 t a b M
def dm(r:VR)(over:Bool)(t:Stp)(Vw:Bool)(M:MemS):VR:=if t.j=0 then (if Vw=true then (if over=true then ⟨r.M.set 2 (aR (t.i+1)),0,r.e,r.em⟩ else ⟨r.M,0,r.e,r.em⟩) else ⟨M.set 2 (aR (t.i+1)),0,t.f,t.emitted⟩) else (if over=true then ⟨(r.M.set 3 0).set 2 (aR (t.i+1)),0,r.e,r.em⟩ else ⟨r.M,0,r.e,r.em⟩)
abbrev cC(t:Stp)(b:Int)(c:Bool)(M:MemS):VR:=dm (bU t t.i b M) (jv t t.i b M) t c M
abbrev cD(t:Stp)(b:Int)(c:Bool)(M:MemS):VR:=dm (bV t t.i b M) (jx t t.i b M) t c M
def fO(t:Stp)(M:MemS):VR:=if ai t.S t.i<0 then ⟨bd t 2 0 M,0,t.f,t.emitted⟩ else (cC t (M.get (ai t.S t.i+2)) (!decide (M.get (ai t.S t.i+2)=0)) M).z
def dC(t:Stp)(M:MemS):VR:=if j6 t 0 0 M=true then ⟨bd t 3 0 (cZ t 0 0 M).M,0,(cZ t 0 0 M).e,(cZ t 0 0 M).em⟩ else ⟨(cZ t 0 0 M).M,0,(cZ t 0 0 M).e,(cZ t 0 0 M).em⟩
def fP(t:Stp)(M:MemS):VR:=if af t.S t.i<0 then ⟨bd t 7 0 M,0,t.f,t.emitted⟩ else (cD t (aR (M.get (af t.S t.i+6)-1)) (!decide (M.get (af t.S t.i+6)=0)) M).z
theorem HV(hM:MemH mb M (k+6) T)(hS:SetIn F t.S)(hE:¬ t.j=0->cU F)(hC:CodeIn F t.code t.cA t.cn) :aeo 233 #[vP tb 0,vI 0,vI a,vI b] (ap [(tb,.lit (Stp.l t mb) 281 (0,0))] [T]) F (λ u H'=>∃x,H'=ap [(tb,.lit ((Stp.lp t mb)++(aaa (bU t a b M).e++[.bool ((bU t a b M).em)])) 281 (0,0))] [x]/\(MemH mb (bU t a b M).M k x/\u=.bool (jv t a b M))):=by
 have hp:=hS.pl;have hn:=hS.nb;have hr:=hS.room;refine QS Tryz.func233 (mc hS.blk mn)<|SO 15 [.o 0]<|aaq (t.j=0) 16 (λ h1=>?_) λ h1=>?_
 ·refine OU 3<|aap [16] []<|ag [] [0,4,8,9,10,11,1,5,12,2,6,13,3,7,14,15] (ow 0 6)<|aag 16 (aah [] [] [0] (HQ (k+1) t.cA t.cn t.cc t.e0 t.e1 t.e2 a b t.S.fuel hM) ?_);rintro _ T2 ⟨W0,rfl⟩;refine aem [17]<|aaf<|ae 1 [] λ _=>?_;rcases Decidable.em (t.e0<0) with h4|h4
  ·refine aas 34 (nf (nt (abk h4)))<|OU 6<|QV [] [0] [0] (.bool true) (ap [(tb,.lit (Stp.l t mb) 281 (0,0))] [T2]) ?_;have e:(bU t a b M)=⟨(aN t.e0 t.S.fuel a b M),0,⟨t.f0,t.f1,t.f2,t.f3⟩,t.emitted⟩:=by
    first|(simp only[bU,eH,if_pos h1,if_pos h4];try rfl;done)|rfl
   have er:(jv t a b M)=true:=by
    first|(simp only[jv,dt,if_pos h1,if_pos h4];done)|(simp only[jv,dt,if_pos h1,if_pos h4];simp[*];done)|(simp only[jv,dt,if_pos h1,if_pos h4];rfl)
   refine⟨T2,by rw[e] <;> rfl,?_,by rw[er]⟩;rw[e];exact W0.weak (by omega)
  ·refine aas 34 (nt (nf (abh h4)))<|SO 9 [.o 0]<|aam [] [0] (ar 3 1 W0) ?_;rintro _ T5 VJ;refine OU 7<|QV [] [0] [0] (.bool false) (ap [(tb,.lit (Stp.l t mb) 281 (0,0))] [T5]) ?_;have e:(bU t a b M)=⟨((aN t.e0 t.S.fuel a b M).set 3 1),0,⟨t.f0,t.f1,t.f2,t.f3⟩,t.emitted⟩:=by
    first|(simp only[bU,eH,if_pos h1,if_neg h4];try rfl;done)|rfl
   have er:(jv t a b M)=false:=by
    first|(simp only[jv,dt,if_pos h1,if_neg h4];done)|(simp only[jv,dt,if_pos h1,if_neg h4];simp[*];done)|(simp only[jv,dt,if_pos h1,if_neg h4];rfl)
   refine⟨T5,by rw[e] <;> rfl,?_,by rw[er]⟩;rw[e];exact VJ.weak (by omega)
 ·refine OU 4<|aap [12,19] []<|ag [] [0,4,8,1,5,9,2,6,10,3,7,11] (ow 0 21)<|dg 12 17 ?_ ?_
  ·refine aah [] [] [0] (iU k t.cc t.e0 t.e1 t.e2 hM hS.toSetN (aC (hE h1)) hC.up) ?_;rintro _ T7 ⟨Xd,rfl⟩;refine aem [13,14,15,16]<|aag 17 (aai [] [] λ n9=>?_);refine aem [18]<|SV 19 [] (aab 4)<|aem [20]<|aaf<|ae 21 ((aab 4)++ow 1 5) λ _=>QV [] [1] [0] (.bool (cQ t.code t.cn M)) (ap [(tb,.lit ((Stp.lp t mb)++(aaa (aj t.S t.code t.cn M).e++[.bool ((aj t.S t.code t.cn M).em)])) 281 (0,0))] [T7]) ?_;have e:(bU t a b M)=⟨(aj t.S t.code t.cn M).M,0,⟨(aj t.S t.code t.cn M).e.t,(aj t.S t.code t.cn M).e.i,(aj t.S t.code t.cn M).e.k,(aj t.S t.code t.cn M).e.v⟩,(aj t.S t.code t.cn M).em⟩:=by
    first|(simp only[bU,eH,if_neg h1];try rfl;done)|rfl
   have er:(jv t a b M)=cQ t.code t.cn M:=by
    first|(simp only[jv,dt,if_neg h1];done)|(simp only[jv,dt,if_neg h1];simp[*];done)|(simp only[jv,dt,if_neg h1];rfl)
   refine⟨T7,by rw[e] <;> rfl,?_,by rw[er]⟩;rw[e];exact Xd.weak (by omega)
  ·refine aai [] [] λ Wi=>aag 12 (aah [] [] [0] (iU k t.cc t.e0 t.e1 t.e2 hM hS.toSetN (aC (hE h1)) hC.up) ?_);rintro _ UQ ⟨Ve,rfl⟩;refine aem [13,14,15,16,18]<|SV 19 [] (aab 4)<|aem [20]<|aaf<|ae 21 ((aab 4)++ow 1 5) λ _=>QV [] [1] [0] (.bool (cQ t.code t.cn M)) (ap [(tb,.lit ((Stp.lp t mb)++(aaa (aj t.S t.code t.cn M).e++[.bool ((aj t.S t.code t.cn M).em)])) 281 (0,0))] [UQ]) ?_;have e:(bU t a b M)=⟨(aj t.S t.code t.cn M).M,0,⟨(aj t.S t.code t.cn M).e.t,(aj t.S t.code t.cn M).e.i,(aj t.S t.code t.cn M).e.k,(aj t.S t.code t.cn M).e.v⟩,(aj t.S t.code t.cn M).em⟩:=by
    first|(simp only[bU,eH,if_neg h1];try rfl;done)|rfl
   have er:(jv t a b M)=cQ t.code t.cn M:=by
    first|(simp only[jv,dt,if_neg h1];done)|(simp only[jv,dt,if_neg h1];simp[*];done)|(simp only[jv,dt,if_neg h1];rfl)
   refine⟨UQ,by rw[e] <;> rfl,?_,by rw[er]⟩;rw[e];exact Ve.weak (by omega)
theorem Ph(hM:MemH mb M (k+6) T)(hS:SetIn F t.S)(hE:¬ t.j=0->cU F)(hC:CodeIn F t.code t.cA t.cn) :aeo 233 #[vP tb 0,vI 1,vI a,vI b] (ap [(tb,.lit (Stp.l t mb) 281 (0,0))] [T]) F (λ u H'=>∃x,H'=ap [(tb,.lit ((Stp.lp t mb)++(aaa (cZ t a b M).e++[.bool ((cZ t a b M).em)])) 281 (0,0))] [x]/\(MemH mb (cZ t a b M).M k x/\u=.bool (j6 t a b M))):=by
 have hp:=hS.pl;have hn:=hS.nb;have hr:=hS.room;refine QS Tryz.func233 (mc hS.blk mn)<|SO 15 [.o 0]<|aaq (t.j=0) 16 (λ h1=>?_) λ h1=>?_
 ·refine OU 3<|aap [16] []<|ag [] [0,4,8,9,10,11,1,5,12,2,6,13,3,7,14,15] (ow 0 6)<|aag 16 (aah [] [] [0] (HS (k+1) t.cA t.cn t.cc t.e0 t.e1 t.e2 a b t.S.fuel hM) ?_);rintro _ T2 ⟨W0,rfl⟩;refine aem [17]<|aaf<|ae 1 [] λ _=>?_;rcases Decidable.em (t.e1<0) with h4|h4
  ·refine aas 34 (nf (nt (abk h4)))<|OU 6<|QV [] [0] [0] (.bool true) (ap [(tb,.lit (Stp.l t mb) 281 (0,0))] [T2]) ?_;have e:(cZ t a b M)=⟨(aN t.e1 t.S.fuel a b M),0,⟨t.f0,t.f1,t.f2,t.f3⟩,t.emitted⟩:=by
    first|(simp only[cZ,eH,if_pos h1,if_pos h4];try rfl;done)|rfl
   have er:(j6 t a b M)=true:=by
    first|(simp only[j6,dt,if_pos h1,if_pos h4];done)|(simp only[j6,dt,if_pos h1,if_pos h4];simp[*];done)|(simp only[j6,dt,if_pos h1,if_pos h4];rfl)
   refine⟨T2,by rw[e] <;> rfl,?_,by rw[er]⟩;rw[e];exact W0.weak (by omega)
  ·refine aas 34 (nt (nf (abh h4)))<|SO 9 [.o 0]<|aam [] [0] (ar 3 1 W0) ?_;rintro _ T5 VJ;refine OU 7<|QV [] [0] [0] (.bool false) (ap [(tb,.lit (Stp.l t mb) 281 (0,0))] [T5]) ?_;have e:(cZ t a b M)=⟨((aN t.e1 t.S.fuel a b M).set 3 1),0,⟨t.f0,t.f1,t.f2,t.f3⟩,t.emitted⟩:=by
    first|(simp only[cZ,eH,if_pos h1,if_neg h4];try rfl;done)|rfl
   have er:(j6 t a b M)=false:=by
    first|(simp only[j6,dt,if_pos h1,if_neg h4];done)|(simp only[j6,dt,if_pos h1,if_neg h4];simp[*];done)|(simp only[j6,dt,if_pos h1,if_neg h4];rfl)
   refine⟨T5,by rw[e] <;> rfl,?_,by rw[er]⟩;rw[e];exact VJ.weak (by omega)
 ·refine OU 4<|aap [12,19] []<|ag [] [0,4,8,1,5,9,2,6,10,3,7,11] (ow 0 21)<|dg 12 17 ?_ ?_
  ·refine aah [] [] [0] (iU k t.cc t.e0 t.e1 t.e2 hM hS.toSetN (aC (hE h1)) hC.up) ?_;rintro _ T7 ⟨Xd,rfl⟩;refine aem [13,14,15,16]<|aag 17 (aai [] [] λ n9=>?_);refine aem [18]<|SV 19 [] (aab 4)<|aem [20]<|aaf<|ae 21 ((aab 4)++ow 1 5) λ _=>QV [] [1] [0] (.bool (cQ t.code t.cn M)) (ap [(tb,.lit ((Stp.lp t mb)++(aaa (aj t.S t.code t.cn M).e++[.bool ((aj t.S t.code t.cn M).em)])) 281 (0,0))] [T7]) ?_;have e:(cZ t a b M)=⟨(aj t.S t.code t.cn M).M,0,⟨(aj t.S t.code t.cn M).e.t,(aj t.S t.code t.cn M).e.i,(aj t.S t.code t.cn M).e.k,(aj t.S t.code t.cn M).e.v⟩,(aj t.S t.code t.cn M).em⟩:=by
    first|(simp only[cZ,eH,if_neg h1];try rfl;done)|rfl
   have er:(j6 t a b M)=cQ t.code t.cn M:=by
    first|(simp only[j6,dt,if_neg h1];done)|(simp only[j6,dt,if_neg h1];simp[*];done)|(simp only[j6,dt,if_neg h1];rfl)
   refine⟨T7,by rw[e] <;> rfl,?_,by rw[er]⟩;rw[e];exact Xd.weak (by omega)
  ·refine aai [] [] λ Wi=>aag 12 (aah [] [] [0] (iU k t.cc t.e0 t.e1 t.e2 hM hS.toSetN (aC (hE h1)) hC.up) ?_);rintro _ UQ ⟨Ve,rfl⟩;refine aem [13,14,15,16,18]<|SV 19 [] (aab 4)<|aem [20]<|aaf<|ae 21 ((aab 4)++ow 1 5) λ _=>QV [] [1] [0] (.bool (cQ t.code t.cn M)) (ap [(tb,.lit ((Stp.lp t mb)++(aaa (aj t.S t.code t.cn M).e++[.bool ((aj t.S t.code t.cn M).em)])) 281 (0,0))] [UQ]) ?_;have e:(cZ t a b M)=⟨(aj t.S t.code t.cn M).M,0,⟨(aj t.S t.code t.cn M).e.t,(aj t.S t.code t.cn M).e.i,(aj t.S t.code t.cn M).e.k,(aj t.S t.code t.cn M).e.v⟩,(aj t.S t.code t.cn M).em⟩:=by
    first|(simp only[cZ,eH,if_neg h1];try rfl;done)|rfl
   have er:(j6 t a b M)=cQ t.code t.cn M:=by
    first|(simp only[j6,dt,if_neg h1];done)|(simp only[j6,dt,if_neg h1];simp[*];done)|(simp only[j6,dt,if_neg h1];rfl)
   refine⟨UQ,by rw[e] <;> rfl,?_,by rw[er]⟩;rw[e];exact Ve.weak (by omega)
theorem HW(hM:MemH mb M (k+6) T)(hS:SetIn F t.S)(hE:¬ t.j=0->cU F)(hC:CodeIn F t.code t.cA t.cn) :aeo 233 #[vP tb 0,vI 2,vI a,vI b] (ap [(tb,.lit (Stp.l t mb) 281 (0,0))] [T]) F (λ u H'=>∃x,H'=ap [(tb,.lit ((Stp.lp t mb)++(aaa (bV t a b M).e++[.bool ((bV t a b M).em)])) 281 (0,0))] [x]/\(MemH mb (bV t a b M).M k x/\u=.bool (jx t a b M))):=by
 have hp:=hS.pl;have hn:=hS.nb;have hr:=hS.room;refine QS Tryz.func233 (mc hS.blk mn)<|SO 15 [.o 0]<|aaq (t.j=0) 16 (λ h1=>?_) λ h1=>?_
 ·refine OU 3<|aap [16] []<|ag [] [0,4,8,9,10,11,1,5,12,2,6,13,3,7,14,15] (ow 0 6)<|aag 16 (aah [] [] [0] (HT (k+1) t.cA t.cn t.cc t.e0 t.e1 t.e2 a b t.S.fuel hM) ?_);rintro _ T2 ⟨W0,rfl⟩;refine aem [17]<|aaf<|ae 1 [] λ _=>?_;rcases Decidable.em (t.e2<0) with h4|h4
  ·refine aas 34 (nf (nt (abk h4)))<|OU 6<|QV [] [0] [0] (.bool true) (ap [(tb,.lit (Stp.l t mb) 281 (0,0))] [T2]) ?_;have e:(bV t a b M)=⟨(aN t.e2 t.S.fuel a b M),0,⟨t.f0,t.f1,t.f2,t.f3⟩,t.emitted⟩:=by
    first|(simp only[bV,eH,if_pos h1,if_pos h4];try rfl;done)|rfl
   have er:(jx t a b M)=true:=by
    first|(simp only[jx,dt,if_pos h1,if_pos h4];done)|(simp only[jx,dt,if_pos h1,if_pos h4];simp[*];done)|(simp only[jx,dt,if_pos h1,if_pos h4];rfl)
   refine⟨T2,by rw[e] <;> rfl,?_,by rw[er]⟩;rw[e];exact W0.weak (by omega)
  ·refine aas 34 (nt (nf (abh h4)))<|SO 9 [.o 0]<|aam [] [0] (ar 3 1 W0) ?_;rintro _ T5 VJ;refine OU 7<|QV [] [0] [0] (.bool false) (ap [(tb,.lit (Stp.l t mb) 281 (0,0))] [T5]) ?_;have e:(bV t a b M)=⟨((aN t.e2 t.S.fuel a b M).set 3 1),0,⟨t.f0,t.f1,t.f2,t.f3⟩,t.emitted⟩:=by
    first|(simp only[bV,eH,if_pos h1,if_neg h4];try rfl;done)|rfl
   have er:(jx t a b M)=false:=by
    first|(simp only[jx,dt,if_pos h1,if_neg h4];done)|(simp only[jx,dt,if_pos h1,if_neg h4];simp[*];done)|(simp only[jx,dt,if_pos h1,if_neg h4];rfl)
   refine⟨T5,by rw[e] <;> rfl,?_,by rw[er]⟩;rw[e];exact VJ.weak (by omega)
 ·refine OU 4<|aap [12,19] []<|ag [] [0,4,8,1,5,9,2,6,10,3,7,11] (ow 0 21)<|dg 12 17 ?_ ?_
  ·refine aah [] [] [0] (iU k t.cc t.e0 t.e1 t.e2 hM hS.toSetN (aC (hE h1)) hC.up) ?_;rintro _ T7 ⟨Xd,rfl⟩;refine aem [13,14,15,16]<|aag 17 (aai [] [] λ n9=>?_);refine aem [18]<|SV 19 [] (aab 4)<|aem [20]<|aaf<|ae 21 ((aab 4)++ow 1 5) λ _=>QV [] [1] [0] (.bool (cQ t.code t.cn M)) (ap [(tb,.lit ((Stp.lp t mb)++(aaa (aj t.S t.code t.cn M).e++[.bool ((aj t.S t.code t.cn M).em)])) 281 (0,0))] [T7]) ?_;have e:(bV t a b M)=⟨(aj t.S t.code t.cn M).M,0,⟨(aj t.S t.code t.cn M).e.t,(aj t.S t.code t.cn M).e.i,(aj t.S t.code t.cn M).e.k,(aj t.S t.code t.cn M).e.v⟩,(aj t.S t.code t.cn M).em⟩:=by
    first|(simp only[bV,eH,if_neg h1];try rfl;done)|rfl
   have er:(jx t a b M)=cQ t.code t.cn M:=by
    first|(simp only[jx,dt,if_neg h1];done)|(simp only[jx,dt,if_neg h1];simp[*];done)|(simp only[jx,dt,if_neg h1];rfl)
   refine⟨T7,by rw[e] <;> rfl,?_,by rw[er]⟩;rw[e];exact Xd.weak (by omega)
  ·refine aai [] [] λ Wi=>aag 12 (aah [] [] [0] (iU k t.cc t.e0 t.e1 t.e2 hM hS.toSetN (aC (hE h1)) hC.up) ?_);rintro _ UQ ⟨Ve,rfl⟩;refine aem [13,14,15,16,18]<|SV 19 [] (aab 4)<|aem [20]<|aaf<|ae 21 ((aab 4)++ow 1 5) λ _=>QV [] [1] [0] (.bool (cQ t.code t.cn M)) (ap [(tb,.lit ((Stp.lp t mb)++(aaa (aj t.S t.code t.cn M).e++[.bool ((aj t.S t.code t.cn M).em)])) 281 (0,0))] [UQ]) ?_;have e:(bV t a b M)=⟨(aj t.S t.code t.cn M).M,0,⟨(aj t.S t.code t.cn M).e.t,(aj t.S t.code t.cn M).e.i,(aj t.S t.code t.cn M).e.k,(aj t.S t.code t.cn M).e.v⟩,(aj t.S t.code t.cn M).em⟩:=by
    first|(simp only[bV,eH,if_neg h1];try rfl;done)|rfl
   have er:(jx t a b M)=cQ t.code t.cn M:=by
    first|(simp only[jx,dt,if_neg h1];done)|(simp only[jx,dt,if_neg h1];simp[*];done)|(simp only[jx,dt,if_neg h1];rfl)
   refine⟨UQ,by rw[e] <;> rfl,?_,by rw[er]⟩;rw[e];exact Ve.weak (by omega)
theorem Ml(c:Bool)(tb:Nat)(k:Nat)(hM:MemH mb M (k+8) T)(hS:SetIn F t.S)(hE:¬ t.j=0->cU F)(hC:CodeIn F t.code t.cA t.cn) :aeo 232 #[vP tb 0,vI 0,vI b,.bool c] (ap [(tb,.lit (Stp.l t mb) 281 (0,0))] [T]) F (λ u H'=>∃x,H'=ap [(tb,.lit ((Stp.lp t mb)++(aaa (cC t b c M).e++[.bool ((cC t b c M).em)])) 281 (0,0))] [x]/\(MemH mb (cC t b c M).M k x)):=by
 have hp:=hS.pl;have hn:=hS.nb;have hr:=hS.room;refine QS Tryz.func232 (mc hS.blk mn)<|SO 8 [.o 0]<|aaq (t.j=0) 13 (λ h1=>?_) λ h1=>?_
 ·refine OU 5<|oK (c) 16 (λ h2=>?_) λ h2=>?_
  ·refine SO 10 [.o 0]<|aam [0] [0] (HV t t.i b tb (k+2) hM hS.up (λ h_=>aC (hE h_)) hC.up) ?_;rintro _ T3 ⟨UI,rfl⟩;refine OU 2<|cP (jv t t.i b M) 36 (λ h5=>?_) λ h5=>?_
   ·refine SO 11 [.o 0]<|aas 41 (nt (abk h1))<|OU 3<|aap [11] []<|ag [] [0,4,1,5,2,6,3,7,8,9,10] (aab 2)<|aag 11 (aah [] [] [0] (ar 2 (i64.wrap (t.i+1)) UI) ?_);rintro _ T6 ZS;refine aaf<|QV [] [0] [0] (.tuple #[]) (ap [(tb,.lit ((Stp.lp t mb)++(aaa (bU t t.i b M).e++[.bool ((bU t t.i b M).em)])) 281 (0,0))] [T6]) ?_;have e:(cC t b c M)=⟨(((bU t t.i b M).M).set 2 (i64.wrap (t.i+1))),0,⟨(bU t t.i b M).e.t,(bU t t.i b M).e.i,(bU t t.i b M).e.k,(bU t t.i b M).e.v⟩,(bU t t.i b M).em⟩:=by
     first|(simp only[cC,dm,if_pos h1,if_pos h2,if_pos h5];try rfl;done)|rfl
    refine⟨T6,by rw[e] <;> rfl,?_⟩;rw[e];exact ZS.weak (by omega)
   ·refine OU 2<|QV [] [0] [0] (.tuple #[]) (ap [(tb,.lit ((Stp.lp t mb)++(aaa (bU t t.i b M).e++[.bool ((bU t t.i b M).em)])) 281 (0,0))] [T3]) ?_;have e:(cC t b c M)=⟨(bU t t.i b M).M,0,⟨(bU t t.i b M).e.t,(bU t t.i b M).e.i,(bU t t.i b M).e.k,(bU t t.i b M).e.v⟩,(bU t t.i b M).em⟩:=by
     first|(simp only[cC,dm,if_pos h1,if_pos h2,if_neg h5];try rfl;done)|rfl
    refine⟨T3,by rw[e] <;> rfl,?_⟩;rw[e];exact UI.weak (by omega)
  ·refine OU 1<|aap [11] []<|ag [] [0,4,1,5,2,6,3,7,8,9,10] (aab 2)<|aag 11 (aah [] [] [0] (ar 2 (i64.wrap (t.i+1)) hM) ?_);rintro _ T8 YP;refine aaf<|QV [] [0] [0] (.tuple #[]) (ap [(tb,.lit (Stp.l t mb) 281 (0,0))] [T8]) ?_;have e:(cC t b c M)=⟨(M.set 2 (i64.wrap (t.i+1))),0,⟨t.f0,t.f1,t.f2,t.f3⟩,t.emitted⟩:=by
    first|(simp only[cC,dm,if_pos h1,if_neg h2];try rfl;done)|rfl
   refine⟨T8,by rw[e] <;> rfl,?_⟩;rw[e];exact YP.weak (by omega)
 ·refine SO 15 [.o 0]<|aam [0] [0] (HV t t.i b tb (k+2) hM hS.up (λ h_=>aC (hE h_)) hC.up) ?_;rintro _ W7 ⟨We,rfl⟩;refine OU 2<|cP (jv t t.i b M) 36 (λ H_=>?_) λ H_=>?_
  ·refine SO 11 [.o 0]<|aas 41 (nf (abh h1))<|SO 6 [.o 0]<|aam [] [0] (ar 3 0 We) ?_;rintro _ WC Vt;refine OU 2<|aap [11] []<|ag [] [0,4,1,5,2,6,3,7,8,9,10] (aab 2)<|aag 11 (aah [] [] [0] (ar 2 (i64.wrap (t.i+1)) Vt) ?_);rintro _ VN VK;refine aaf<|QV [] [0] [0] (.tuple #[]) (ap [(tb,.lit ((Stp.lp t mb)++(aaa (bU t t.i b M).e++[.bool ((bU t t.i b M).em)])) 281 (0,0))] [VN]) ?_;have e:(cC t b c M)=⟨((((bU t t.i b M).M).set 3 0).set 2 (i64.wrap (t.i+1))),0,⟨(bU t t.i b M).e.t,(bU t t.i b M).e.i,(bU t t.i b M).e.k,(bU t t.i b M).e.v⟩,(bU t t.i b M).em⟩:=by
    first|(simp only[cC,dm,if_neg h1,if_pos H_];try rfl;done)|rfl
   refine⟨VN,by rw[e] <;> rfl,?_⟩;rw[e];exact VK.weak (by omega)
  ·refine OU 2<|QV [] [0] [0] (.tuple #[]) (ap [(tb,.lit ((Stp.lp t mb)++(aaa (bU t t.i b M).e++[.bool ((bU t t.i b M).em)])) 281 (0,0))] [W7]) ?_;have e:(cC t b c M)=⟨(bU t t.i b M).M,0,⟨(bU t t.i b M).e.t,(bU t t.i b M).e.i,(bU t t.i b M).e.k,(bU t t.i b M).e.v⟩,(bU t t.i b M).em⟩:=by
    first|(simp only[cC,dm,if_neg h1,if_neg H_];try rfl;done)|rfl
   refine⟨W7,by rw[e] <;> rfl,?_⟩;rw[e];exact We.weak (by omega)
theorem Mm(c:Bool)(tb:Nat)(k:Nat)(hM:MemH mb M (k+8) T)(hS:SetIn F t.S)(hE:¬ t.j=0->cU F)(hC:CodeIn F t.code t.cA t.cn) :aeo 232 #[vP tb 0,vI 2,vI b,.bool c] (ap [(tb,.lit (Stp.l t mb) 281 (0,0))] [T]) F (λ u H'=>∃x,H'=ap [(tb,.lit ((Stp.lp t mb)++(aaa (cD t b c M).e++[.bool ((cD t b c M).em)])) 281 (0,0))] [x]/\(MemH mb (cD t b c M).M k x)):=by
 have hp:=hS.pl;have hn:=hS.nb;have hr:=hS.room;refine QS Tryz.func232 (mc hS.blk mn)<|SO 8 [.o 0]<|aaq (t.j=0) 13 (λ h1=>?_) λ h1=>?_
 ·refine OU 5<|oK (c) 16 (λ h2=>?_) λ h2=>?_
  ·refine SO 10 [.o 0]<|aam [0] [0] (HW t t.i b tb (k+2) hM hS.up (λ h_=>aC (hE h_)) hC.up) ?_;rintro _ T3 ⟨UI,rfl⟩;refine OU 2<|cP (jx t t.i b M) 36 (λ h5=>?_) λ h5=>?_
   ·refine SO 11 [.o 0]<|aas 41 (nt (abk h1))<|OU 3<|aap [11] []<|ag [] [0,4,1,5,2,6,3,7,8,9,10] (aab 2)<|aag 11 (aah [] [] [0] (ar 2 (i64.wrap (t.i+1)) UI) ?_);rintro _ T6 ZS;refine aaf<|QV [] [0] [0] (.tuple #[]) (ap [(tb,.lit ((Stp.lp t mb)++(aaa (bV t t.i b M).e++[.bool ((bV t t.i b M).em)])) 281 (0,0))] [T6]) ?_;have e:(cD t b c M)=⟨(((bV t t.i b M).M).set 2 (i64.wrap (t.i+1))),0,⟨(bV t t.i b M).e.t,(bV t t.i b M).e.i,(bV t t.i b M).e.k,(bV t t.i b M).e.v⟩,(bV t t.i b M).em⟩:=by
     first|(simp only[cD,dm,if_pos h1,if_pos h2,if_pos h5];try rfl;done)|rfl
    refine⟨T6,by rw[e] <;> rfl,?_⟩;rw[e];exact ZS.weak (by omega)
   ·refine OU 2<|QV [] [0] [0] (.tuple #[]) (ap [(tb,.lit ((Stp.lp t mb)++(aaa (bV t t.i b M).e++[.bool ((bV t t.i b M).em)])) 281 (0,0))] [T3]) ?_;have e:(cD t b c M)=⟨(bV t t.i b M).M,0,⟨(bV t t.i b M).e.t,(bV t t.i b M).e.i,(bV t t.i b M).e.k,(bV t t.i b M).e.v⟩,(bV t t.i b M).em⟩:=by
     first|(simp only[cD,dm,if_pos h1,if_pos h2,if_neg h5];try rfl;done)|rfl
    refine⟨T3,by rw[e] <;> rfl,?_⟩;rw[e];exact UI.weak (by omega)
  ·refine OU 1<|aap [11] []<|ag [] [0,4,1,5,2,6,3,7,8,9,10] (aab 2)<|aag 11 (aah [] [] [0] (ar 2 (i64.wrap (t.i+1)) hM) ?_);rintro _ T8 YP;refine aaf<|QV [] [0] [0] (.tuple #[]) (ap [(tb,.lit (Stp.l t mb) 281 (0,0))] [T8]) ?_;have e:(cD t b c M)=⟨(M.set 2 (i64.wrap (t.i+1))),0,⟨t.f0,t.f1,t.f2,t.f3⟩,t.emitted⟩:=by
    first|(simp only[cD,dm,if_pos h1,if_neg h2];try rfl;done)|rfl
   refine⟨T8,by rw[e] <;> rfl,?_⟩;rw[e];exact YP.weak (by omega)
 ·refine SO 15 [.o 0]<|aam [0] [0] (HW t t.i b tb (k+2) hM hS.up (λ h_=>aC (hE h_)) hC.up) ?_;rintro _ W7 ⟨We,rfl⟩;refine OU 2<|cP (jx t t.i b M) 36 (λ H_=>?_) λ H_=>?_
  ·refine SO 11 [.o 0]<|aas 41 (nf (abh h1))<|SO 6 [.o 0]<|aam [] [0] (ar 3 0 We) ?_;rintro _ WC Vt;refine OU 2<|aap [11] []<|ag [] [0,4,1,5,2,6,3,7,8,9,10] (aab 2)<|aag 11 (aah [] [] [0] (ar 2 (i64.wrap (t.i+1)) Vt) ?_);rintro _ VN VK;refine aaf<|QV [] [0] [0] (.tuple #[]) (ap [(tb,.lit ((Stp.lp t mb)++(aaa (bV t t.i b M).e++[.bool ((bV t t.i b M).em)])) 281 (0,0))] [VN]) ?_;have e:(cD t b c M)=⟨((((bV t t.i b M).M).set 3 0).set 2 (i64.wrap (t.i+1))),0,⟨(bV t t.i b M).e.t,(bV t t.i b M).e.i,(bV t t.i b M).e.k,(bV t t.i b M).e.v⟩,(bV t t.i b M).em⟩:=by
    first|(simp only[cD,dm,if_neg h1,if_pos H_];try rfl;done)|rfl
   refine⟨VN,by rw[e] <;> rfl,?_⟩;rw[e];exact VK.weak (by omega)
  ·refine OU 2<|QV [] [0] [0] (.tuple #[]) (ap [(tb,.lit ((Stp.lp t mb)++(aaa (bV t t.i b M).e++[.bool ((bV t t.i b M).em)])) 281 (0,0))] [W7]) ?_;have e:(cD t b c M)=⟨(bV t t.i b M).M,0,⟨(bV t t.i b M).e.t,(bV t t.i b M).e.i,(bV t t.i b M).e.k,(bV t t.i b M).e.v⟩,(bV t t.i b M).em⟩:=by
    first|(simp only[cD,dm,if_neg h1,if_neg H_];try rfl;done)|rfl
   refine⟨W7,by rw[e] <;> rfl,?_⟩;rw[e];exact We.weak (by omega)
theorem RA (hM:MemH mb M (k+9) T) (hS:SetIn F t.S) (hE:¬ t.j=0->cU F) (hC:CodeIn F t.code t.cA t.cn) :aeo 172 #[vP tb 0] (ap [(tb,.lit (Stp.l t mb) 281 (0,0))] [T]) F (λ u H'=>∃x,H'=ap [(tb,.lit ((Stp.lp t mb)++(aaa (fO t M).e++[.bool ((fO t M).em)])) 281 (0,0))] [x]/\(MemH mb (fO t M).M k x)):=by
 have hp:=hS.pl;have hn:=hS.nb;have hr:=hS.room;refine QS Tryz.func172 (mc hS.blk mn)<|OU 1<|aap [] []<|ag [] [0,4,1,5,2,6,3,7] (ow 0 17)<|aae [] 8 (λ X_=>(lQ t.i hS.toSetN)) ?_;have Y2:=lP hS.toSetN t.i;refine aem [9]<|Q2 8<|aaq (ai t.S t.i<0) 14 (λ h2=>?_) λ h2=>?_
 ·refine OU 4<|aam [0] [0] (fp t 2 0 tb (k+6) hM hS.up ) ?_;rintro _ T3 UI;refine OU 2<|QV [] [0] [0] (.tuple #[]) (ap [(tb,.lit (Stp.l t mb) 281 (0,0))] [T3]) ?_;have e:(fO t M)=⟨(bd t 2 0 M),0,⟨t.f0,t.f1,t.f2,t.f3⟩,t.emitted⟩:=by
   first|(simp only[fO,VR.z,if_pos h2];try rfl;done)|rfl
  refine⟨T3,by rw[e] <;> rfl,?_⟩;rw[e];exact UI.weak (by omega)
 ·refine ah 11 [.o 0,.nw] [aI ((ai t.S t.i)+2)] λ _=>aal (aD ((ai t.S t.i)+2) hM (ay 0))<|OU 8<|aam [0] [0] (Ml t (M.get ((ai t.S t.i)+2)) (!(decide (M.get ((ai t.S t.i)+2)=0))) tb (k+1) hM hS.up (λ h_=>aC (hE h_)) hC.up) ?_;rintro _ T5 VJ;refine OU 1<|QV [] [0] [0] (.tuple #[]) (ap [(tb,.lit ((Stp.lp t mb)++(aaa (cC t (M.get ((ai t.S t.i)+2)) (!(decide (M.get ((ai t.S t.i)+2)=0))) M).e++[.bool ((cC t (M.get ((ai t.S t.i)+2)) (!(decide (M.get ((ai t.S t.i)+2)=0))) M).em)])) 281 (0,0))] [T5]) ?_;have e:(fO t M)=⟨(cC t (M.get ((ai t.S t.i)+2)) (!(decide (M.get ((ai t.S t.i)+2)=0))) M).M,0,⟨(cC t (M.get ((ai t.S t.i)+2)) (!(decide (M.get ((ai t.S t.i)+2)=0))) M).e.t,(cC t (M.get ((ai t.S t.i)+2)) (!(decide (M.get ((ai t.S t.i)+2)=0))) M).e.i,(cC t (M.get ((ai t.S t.i)+2)) (!(decide (M.get ((ai t.S t.i)+2)=0))) M).e.k,(cC t (M.get ((ai t.S t.i)+2)) (!(decide (M.get ((ai t.S t.i)+2)=0))) M).e.v⟩,(cC t (M.get ((ai t.S t.i)+2)) (!(decide (M.get ((ai t.S t.i)+2)=0))) M).em⟩:=by
   first|(simp only[fO,VR.z,if_neg h2];try rfl;done)|rfl
  refine⟨T5,by rw[e] <;> rfl,?_⟩;rw[e];exact VJ.weak (by omega)
theorem Pi (hM:MemH mb M (k+9) T) (hS:SetIn F t.S) (hE:¬ t.j=0->cU F) (hC:CodeIn F t.code t.cA t.cn) :aeo 173 #[vP tb 0] (ap [(tb,.lit (Stp.l t mb) 281 (0,0))] [T]) F (λ u H'=>∃x,H'=ap [(tb,.lit ((Stp.lp t mb)++(aaa (dC t M).e++[.bool ((dC t M).em)])) 281 (0,0))] [x]/\(MemH mb (dC t M).M k x)):=by
 have hp:=hS.pl;have hn:=hS.nb;have hr:=hS.room;refine QS Tryz.func173 (mc hS.blk mn)<|OU 3<|aam [0] [0] (Ph t 0 0 tb (k+3) hM hS.up (λ h_=>aC (hE h_)) hC.up) ?_;rintro _ T1 ⟨hM2,rfl⟩;refine OU 2<|cP (j6 t 0 0 M) 3 (λ h3=>?_) λ h3=>?_
 ·refine OU 3<|aam [0] [0] (fp (t.upd (cZ t 0 0 M)) 3 0 tb k hM2 hS.up ) ?_;rintro _ T4 Ys;refine OU 1<|QV [] [0] [0] (.tuple #[]) (ap [(tb,.lit ((Stp.lp t mb)++(aaa (cZ t 0 0 M).e++[.bool ((cZ t 0 0 M).em)])) 281 (0,0))] [T4]) ?_;have e:(dC t M)=⟨(bd (t.upd (cZ t 0 0 M)) 3 0 ((cZ t 0 0 M).M)),0,⟨(cZ t 0 0 M).e.t,(cZ t 0 0 M).e.i,(cZ t 0 0 M).e.k,(cZ t 0 0 M).e.v⟩,(cZ t 0 0 M).em⟩:=by
   first|(simp only[dC,VR.z,if_pos h3];try rfl;done)|rfl
  refine⟨T4,by rw[e] <;> rfl,?_⟩;rw[e];exact Ys.weak (by omega)
 ·refine OU 2<|QV [] [0] [0] (.tuple #[]) (ap [(tb,.lit ((Stp.lp t mb)++(aaa (cZ t 0 0 M).e++[.bool ((cZ t 0 0 M).em)])) 281 (0,0))] [T1]) ?_;have e:(dC t M)=⟨(cZ t 0 0 M).M,0,⟨(cZ t 0 0 M).e.t,(cZ t 0 0 M).e.i,(cZ t 0 0 M).e.k,(cZ t 0 0 M).e.v⟩,(cZ t 0 0 M).em⟩:=by
   first|(simp only[dC,VR.z,if_neg h3];try rfl;done)|rfl
  refine⟨T1,by rw[e] <;> rfl,?_⟩;rw[e];exact hM2.weak (by omega)
theorem RB (hM:MemH mb M (k+9) T) (hS:SetIn F t.S) (hE:¬ t.j=0->cU F) (hC:CodeIn F t.code t.cA t.cn) :aeo 177 #[vP tb 0] (ap [(tb,.lit (Stp.l t mb) 281 (0,0))] [T]) F (λ u H'=>∃x,H'=ap [(tb,.lit ((Stp.lp t mb)++(aaa (fP t M).e++[.bool ((fP t M).em)])) 281 (0,0))] [x]/\(MemH mb (fP t M).M k x)):=by
 have hp:=hS.pl;have hn:=hS.nb;have hr:=hS.room;refine QS Tryz.func177 (mc hS.blk mn)<|OU 1<|aap [] []<|ag [] [0,4,1,5,2,6,3,7] (ow 0 17)<|aae [] 8 (λ X_=>(dq t.i hS.toSetN)) ?_;have Y2:=bT hS.toSetN t.i;refine aem [9]<|Q2 8<|aaq (af t.S t.i<0) 14 (λ h2=>?_) λ h2=>?_
 ·refine OU 4<|aam [0] [0] (fp t 7 0 tb (k+6) hM hS.up ) ?_;rintro _ T3 UI;refine OU 2<|QV [] [0] [0] (.tuple #[]) (ap [(tb,.lit (Stp.l t mb) 281 (0,0))] [T3]) ?_;have e:(fP t M)=⟨(bd t 7 0 M),0,⟨t.f0,t.f1,t.f2,t.f3⟩,t.emitted⟩:=by
   first|(simp only[fP,VR.z,if_pos h2];try rfl;done)|rfl
  refine⟨T3,by rw[e] <;> rfl,?_⟩;rw[e];exact UI.weak (by omega)
 ·refine ah 11 [.o 0,.nw] [aI ((af t.S t.i)+6)] λ _=>aal (aD ((af t.S t.i)+6) hM (ay 0))<|OU 9<|aam [0] [0] (Mm t (i64.wrap ((M.get ((af t.S t.i)+6))-1)) (!(decide (M.get ((af t.S t.i)+6)=0))) tb (k+1) hM hS.up (λ h_=>aC (hE h_)) hC.up) ?_;rintro _ T5 VJ;refine OU 1<|QV [] [0] [0] (.tuple #[]) (ap [(tb,.lit ((Stp.lp t mb)++(aaa (cD t (i64.wrap ((M.get ((af t.S t.i)+6))-1)) (!(decide (M.get ((af t.S t.i)+6)=0))) M).e++[.bool ((cD t (i64.wrap ((M.get ((af t.S t.i)+6))-1)) (!(decide (M.get ((af t.S t.i)+6)=0))) M).em)])) 281 (0,0))] [T5]) ?_;have e:(fP t M)=⟨(cD t (i64.wrap ((M.get ((af t.S t.i)+6))-1)) (!(decide (M.get ((af t.S t.i)+6)=0))) M).M,0,⟨(cD t (i64.wrap ((M.get ((af t.S t.i)+6))-1)) (!(decide (M.get ((af t.S t.i)+6)=0))) M).e.t,(cD t (i64.wrap ((M.get ((af t.S t.i)+6))-1)) (!(decide (M.get ((af t.S t.i)+6)=0))) M).e.i,(cD t (i64.wrap ((M.get ((af t.S t.i)+6))-1)) (!(decide (M.get ((af t.S t.i)+6)=0))) M).e.k,(cD t (i64.wrap ((M.get ((af t.S t.i)+6))-1)) (!(decide (M.get ((af t.S t.i)+6)=0))) M).e.v⟩,(cD t (i64.wrap ((M.get ((af t.S t.i)+6))-1)) (!(decide (M.get ((af t.S t.i)+6)=0))) M).em⟩:=by
   first|(simp only[fP,VR.z,if_neg h2];try rfl;done)|rfl
  refine⟨T5,by rw[e] <;> rfl,?_⟩;rw[e];exact VJ.weak (by omega)
end
section
variable {F T:HL} {M:MemS} {mb qc:Nat} (m:Mot) (t:Stp) (pa b:V2) (tb:Nat) (va:V2) (k q:Nat) (pb vb:V2)
def pE(a:V2)(m:Int):V2:=⟨aK a.x (aR (0-m)) m,aK a.y (aR (0-m)) m⟩
def ff(m:Mot)(b:V2):Mot:=⟨m.px,m.py,(bQ ⟨m.vx,m.vy⟩ b).x,(bQ ⟨m.vx,m.vy⟩ b).y,m.inv⟩
def dD(m:Mot)(b:V2):Mot:=⟨m.px,m.py,(aF ⟨m.vx,m.vy⟩ b).x,(aF ⟨m.vx,m.vy⟩ b).y,m.inv⟩
def gn(m:Mot)(b:V2):Mot:=⟨(aF ⟨m.px,m.py⟩ b).x,(aF ⟨m.px,m.py⟩ b).y,m.vx,m.vy,m.inv⟩
def dZ(m:Mot)(b:V2):Mot:=⟨(bQ ⟨m.px,m.py⟩ b).x,(bQ ⟨m.px,m.py⟩ b).y,m.vx,m.vy,m.inv⟩
def gB(m:Mot):Mot:=⟨(pE ⟨m.px,m.py⟩ 1048576).x,(pE ⟨m.px,m.py⟩ 1048576).y,(pE ⟨m.vx,m.vy⟩ 16384).x,(pE ⟨m.vx,m.vy⟩ 16384).y,m.inv⟩
def rsSp(a b:Mot)(c:Con):Int:=cX (bQ ⟨b.vx,b.vy⟩ ⟨a.vx,a.vy⟩) ⟨c.nx,c.ny⟩
def Oi(a b:Mot)(c:Con)(rest:Int):Int:=az (aR (0-rsSp a b c)) (aR (1024+rest)) (aR (a.inv+b.inv))
def TM(a b:Mot)(c:Con)(rest:Int):Mot:=if rsSp a b c<0 then ff a (au ⟨c.nx,c.ny⟩ (eZ (Oi a b c rest) a.inv)) else a
def TN(a b:Mot)(c:Con)(rest:Int):Mot:=if rsSp a b c<0 then dD b (au ⟨c.nx,c.ny⟩ (eZ (Oi a b c rest) b.inv)) else b
def cr(a b:Mot)(c:Con)(rest:Int):Mot×Mot:=if aR (a.inv+b.inv)=0 then (a,b) else (gB (dZ (TM a b c rest) (au ⟨c.nx,c.ny⟩ (az c.d a.inv (aR (a.inv+b.inv))))),gB (gn (TN a b c rest) (au ⟨c.nx,c.ny⟩ (az c.d b.inv (aR (a.inv+b.inv))))))
theorem rZ(a:V2)(m:Int):aen 341 #[.agg #[vI a.x,vI a.y],vI m] F (.agg #[vI ((pE a m).x),vI ((pE a m).y)]):=by
 refine QT Tryz.func341<|ae 7 [] λ n1=>aap [13] []<|ag [] [0,2,4,6,8,10,1,3,7,9] [.o 1,.o 1]<|aae [] 5 (λ X_=>(dP a.x (i64.wrap (0-m)) m))<|aae [] 11 (λ X_=>(dP a.y (i64.wrap (0-m)) m))<|aem [12]<|SV 13 [] (aab 2)<|aaf<|ae 1 [] λ _=>aav (aab 2) [] [] ⟨rfl,rfl⟩
theorem we(F:HL):aeo 315 #[vP q 0,.agg #[vI b.x,vI b.y]] [(q,.lit [vI m.px,vI m.py,vI m.vx,vI m.vy,vI m.inv] 371 (0,0))] F (λ u H'=>∃x:Unit,H'=ap [(q,.lit [vI ((ff m b).px),vI ((ff m b).py),vI ((ff m b).vx),vI ((ff m b).vy),vI ((ff m b).inv)] 371 (0,0))] []/\True):=by
 refine rI Tryz.func315 mn [(q,.lit [vI m.px,vI m.py,vI m.vx,vI m.vy,vI m.inv] 371 (0,0))] []<|ae 5 [] λ n1=>aap [11] []<|ag [] [0,1,6,2,3,4,5] [.o 0,.o 0,.o 1,.o 1]<|aae [] 7 (λ X_=>(i9 (⟨m.vx,m.vy⟩:V2) b))<|aem [8,9,10]<|SV 11 [] [.o 1,.o 1]<|aaf<|aav [] [1] [] (v:=.tuple #[]) ⟨(),rfl,trivial⟩
theorem xV:aeo 315 #[vP q 0,.agg #[vI b.x,vI b.y]] (ap [(q,.lit [vI m.px,vI m.py,vI m.vx,vI m.vy,vI m.inv] 371 (0,0))] []) F (λ u H'=>∃x:Unit,H'=ap [(q,.lit [vI ((ff m b).px),vI ((ff m b).py),vI ((ff m b).vx),vI ((ff m b).vy),vI ((ff m b).inv)] 371 (0,0))] []/\True):=by
 have e:ap [(q,.lit [vI m.px,vI m.py,vI m.vx,vI m.vy,vI m.inv] 371 (0,0))] []=[(q,.lit [vI m.px,vI m.py,vI m.vx,vI m.vy,vI m.inv] 371 (0,0))]:=by simp
 rw[e];exact we m b q F
theorem xW(F:HL):aeo 316 #[vP q 0,.agg #[vI b.x,vI b.y]] [(q,.lit [vI m.px,vI m.py,vI m.vx,vI m.vy,vI m.inv] 371 (0,0))] F (λ u H'=>∃x:Unit,H'=ap [(q,.lit [vI ((dD m b).px),vI ((dD m b).py),vI ((dD m b).vx),vI ((dD m b).vy),vI ((dD m b).inv)] 371 (0,0))] []/\True):=by
 refine rI Tryz.func316 mn [(q,.lit [vI m.px,vI m.py,vI m.vx,vI m.vy,vI m.inv] 371 (0,0))] []<|ae 5 [] λ n1=>aap [11] []<|ag [] [0,1,6,2,3,4,5] [.o 0,.o 0,.o 1,.o 1]<|aae [] 7 (λ X_=>(fc (⟨m.vx,m.vy⟩:V2) b))<|aem [8,9,10]<|SV 11 [] [.o 1,.o 1]<|aaf<|aav [] [1] [] (v:=.tuple #[]) ⟨(),rfl,trivial⟩
theorem Bl:aeo 316 #[vP q 0,.agg #[vI b.x,vI b.y]] (ap [(q,.lit [vI m.px,vI m.py,vI m.vx,vI m.vy,vI m.inv] 371 (0,0))] []) F (λ u H'=>∃x:Unit,H'=ap [(q,.lit [vI ((dD m b).px),vI ((dD m b).py),vI ((dD m b).vx),vI ((dD m b).vy),vI ((dD m b).inv)] 371 (0,0))] []/\True):=by
 have e:ap [(q,.lit [vI m.px,vI m.py,vI m.vx,vI m.vy,vI m.inv] 371 (0,0))] []=[(q,.lit [vI m.px,vI m.py,vI m.vx,vI m.vy,vI m.inv] 371 (0,0))]:=by simp
 rw[e];exact xW m b q F
theorem xX(F:HL):aeo 318 #[vP q 0,.agg #[vI b.x,vI b.y]] [(q,.lit [vI m.px,vI m.py,vI m.vx,vI m.vy,vI m.inv] 371 (0,0))] F (λ u H'=>∃x:Unit,H'=ap [(q,.lit [vI ((gn m b).px),vI ((gn m b).py),vI ((gn m b).vx),vI ((gn m b).vy),vI ((gn m b).inv)] 371 (0,0))] []/\True):=by
 refine rI Tryz.func318 mn [(q,.lit [vI m.px,vI m.py,vI m.vx,vI m.vy,vI m.inv] 371 (0,0))] []<|ae 5 [] λ n1=>aap [11] []<|ag [] [0,1,6,2,3,4,5] [.o 0,.o 0,.o 1,.o 1]<|aae [] 7 (λ X_=>(fc (⟨m.px,m.py⟩:V2) b))<|aem [8,9,10]<|SV 11 [] [.o 1,.o 1]<|aaf<|aav [] [1] [] (v:=.tuple #[]) ⟨(),rfl,trivial⟩
theorem Bm:aeo 318 #[vP q 0,.agg #[vI b.x,vI b.y]] (ap [(q,.lit [vI m.px,vI m.py,vI m.vx,vI m.vy,vI m.inv] 371 (0,0))] []) F (λ u H'=>∃x:Unit,H'=ap [(q,.lit [vI ((gn m b).px),vI ((gn m b).py),vI ((gn m b).vx),vI ((gn m b).vy),vI ((gn m b).inv)] 371 (0,0))] []/\True):=by
 have e:ap [(q,.lit [vI m.px,vI m.py,vI m.vx,vI m.vy,vI m.inv] 371 (0,0))] []=[(q,.lit [vI m.px,vI m.py,vI m.vx,vI m.vy,vI m.inv] 371 (0,0))]:=by simp
 rw[e];exact xX m b q F
theorem xY(F:HL):aeo 317 #[vP q 0,.agg #[vI b.x,vI b.y]] [(q,.lit [vI m.px,vI m.py,vI m.vx,vI m.vy,vI m.inv] 371 (0,0))] F (λ u H'=>∃x:Unit,H'=ap [(q,.lit [vI ((dZ m b).px),vI ((dZ m b).py),vI ((dZ m b).vx),vI ((dZ m b).vy),vI ((dZ m b).inv)] 371 (0,0))] []/\True):=by
 refine rI Tryz.func317 mn [(q,.lit [vI m.px,vI m.py,vI m.vx,vI m.vy,vI m.inv] 371 (0,0))] []<|ae 5 [] λ n1=>aap [11] []<|ag [] [0,1,6,2,3,4,5] [.o 0,.o 0,.o 1,.o 1]<|aae [] 7 (λ X_=>(i9 (⟨m.px,m.py⟩:V2) b))<|aem [8,9,10]<|SV 11 [] [.o 1,.o 1]<|aaf<|aav [] [1] [] (v:=.tuple #[]) ⟨(),rfl,trivial⟩
theorem Bn:aeo 317 #[vP q 0,.agg #[vI b.x,vI b.y]] (ap [(q,.lit [vI m.px,vI m.py,vI m.vx,vI m.vy,vI m.inv] 371 (0,0))] []) F (λ u H'=>∃x:Unit,H'=ap [(q,.lit [vI ((dZ m b).px),vI ((dZ m b).py),vI ((dZ m b).vx),vI ((dZ m b).vy),vI ((dZ m b).inv)] 371 (0,0))] []/\True):=by
 have e:ap [(q,.lit [vI m.px,vI m.py,vI m.vx,vI m.vy,vI m.inv] 371 (0,0))] []=[(q,.lit [vI m.px,vI m.py,vI m.vx,vI m.vy,vI m.inv] 371 (0,0))]:=by simp
 rw[e];exact xY m b q F
theorem jG{q:Nat}(hq:(q,.lit [vI m.px,vI m.py,vI m.vx,vI m.vy,vI m.inv] 371 (0,0))∈F):aen 319 #[vP q 0] F (.agg #[vI ((gB m).px),vI ((gB m).py),vI ((gB m).vx),vI ((gB m).vy),vI ((gB m).inv)]):=by
 refine QU Tryz.func319 hq<|ae 6 [] λ n1=>aap [18] []<|ag [] [0,6,12,1,7,13,2,8,14,3,9,15,4,10,16] [.ro 0,.ro 0,.ro 0,.ro 0,.ro 0]<|aae [] 5 (λ X_=>(rZ (⟨m.px,m.py⟩:V2) 1048576))<|aae [] 11 (λ X_=>(rZ (⟨m.vx,m.vy⟩:V2) 16384))<|aem [17]<|SV 18 [] (ow 0 5)<|aaf<|ae 1 [] λ _=>aav (ow 0 5) [] [] ⟨rfl,rfl⟩
theorem wg(c:Con)(am:Int)(q:Nat)(hc:(qc,.lit [vI c.nx,vI c.ny,vI c.d] 291 (0,0))∈F):aeo 313 #[.func (.func 315) #[vP q 0] #[],vI am,vP qc 0] (ap [(q,.lit [vI m.px,vI m.py,vI m.vx,vI m.vy,vI m.inv] 371 (0,0))] []) F (λ u H'=>∃x:Unit,H'=ap [(q,.lit [vI ((ff m (au ⟨c.nx,c.ny⟩ am)).px),vI ((ff m (au ⟨c.nx,c.ny⟩ am)).py),vI ((ff m (au ⟨c.nx,c.ny⟩ am)).vx),vI ((ff m (au ⟨c.nx,c.ny⟩ am)).vy),vI ((ff m (au ⟨c.nx,c.ny⟩ am)).inv)] 371 (0,0))] []/\True):=by
 refine QS Tryz.func313 (mc hc mn)<|SO 5 [.ro 0,.ro 0]<|aal (gz (⟨c.nx,c.ny⟩:V2) am)<|aam [0] [] (xV m (au (⟨c.nx,c.ny⟩:V2) am) q) ?_;rintro _ _ _;refine ae 1 [] λ _=>aav [] [0] [] (v:=.tuple #[]) ⟨(),rfl,trivial⟩
theorem xZ(c:Con)(am:Int)(q:Nat)(hc:(qc,.lit [vI c.nx,vI c.ny,vI c.d] 291 (0,0))∈F):aeo 313 #[.func (.func 316) #[vP q 0] #[],vI am,vP qc 0] (ap [(q,.lit [vI m.px,vI m.py,vI m.vx,vI m.vy,vI m.inv] 371 (0,0))] []) F (λ u H'=>∃x:Unit,H'=ap [(q,.lit [vI ((dD m (au ⟨c.nx,c.ny⟩ am)).px),vI ((dD m (au ⟨c.nx,c.ny⟩ am)).py),vI ((dD m (au ⟨c.nx,c.ny⟩ am)).vx),vI ((dD m (au ⟨c.nx,c.ny⟩ am)).vy),vI ((dD m (au ⟨c.nx,c.ny⟩ am)).inv)] 371 (0,0))] []/\True):=by
 refine QS Tryz.func313 (mc hc mn)<|SO 5 [.ro 0,.ro 0]<|aal (gz (⟨c.nx,c.ny⟩:V2) am)<|aam [0] [] (Bl m (au (⟨c.nx,c.ny⟩:V2) am) q) ?_;rintro _ _ _;refine ae 1 [] λ _=>aav [] [0] [] (v:=.tuple #[]) ⟨(),rfl,trivial⟩
theorem qs(c:Con)(am:Int)(q:Nat)(hc:(qc,.lit [vI c.nx,vI c.ny,vI c.d] 291 (0,0))∈F):aeo 313 #[.func (.func 318) #[vP q 0] #[],vI am,vP qc 0] (ap [(q,.lit [vI m.px,vI m.py,vI m.vx,vI m.vy,vI m.inv] 371 (0,0))] []) F (λ u H'=>∃x:Unit,H'=ap [(q,.lit [vI ((gn m (au ⟨c.nx,c.ny⟩ am)).px),vI ((gn m (au ⟨c.nx,c.ny⟩ am)).py),vI ((gn m (au ⟨c.nx,c.ny⟩ am)).vx),vI ((gn m (au ⟨c.nx,c.ny⟩ am)).vy),vI ((gn m (au ⟨c.nx,c.ny⟩ am)).inv)] 371 (0,0))] []/\True):=by
 refine QS Tryz.func313 (mc hc mn)<|SO 5 [.ro 0,.ro 0]<|aal (gz (⟨c.nx,c.ny⟩:V2) am)<|aam [0] [] (Bm m (au (⟨c.nx,c.ny⟩:V2) am) q) ?_;rintro _ _ _;refine ae 1 [] λ _=>aav [] [0] [] (v:=.tuple #[]) ⟨(),rfl,trivial⟩
theorem qt(c:Con)(am:Int)(q:Nat)(hc:(qc,.lit [vI c.nx,vI c.ny,vI c.d] 291 (0,0))∈F):aeo 313 #[.func (.func 317) #[vP q 0] #[],vI am,vP qc 0] (ap [(q,.lit [vI m.px,vI m.py,vI m.vx,vI m.vy,vI m.inv] 371 (0,0))] []) F (λ u H'=>∃x:Unit,H'=ap [(q,.lit [vI ((dZ m (au ⟨c.nx,c.ny⟩ am)).px),vI ((dZ m (au ⟨c.nx,c.ny⟩ am)).py),vI ((dZ m (au ⟨c.nx,c.ny⟩ am)).vx),vI ((dZ m (au ⟨c.nx,c.ny⟩ am)).vy),vI ((dZ m (au ⟨c.nx,c.ny⟩ am)).inv)] 371 (0,0))] []/\True):=by
 refine QS Tryz.func313 (mc hc mn)<|SO 5 [.ro 0,.ro 0]<|aal (gz (⟨c.nx,c.ny⟩:V2) am)<|aam [0] [] (Bn m (au (⟨c.nx,c.ny⟩:V2) am) q) ?_;rintro _ _ _;refine ae 1 [] λ _=>aav [] [0] [] (v:=.tuple #[]) ⟨(),rfl,trivial⟩
theorem ya(a b:Mot)(c:Con)(rest:Int):aen 281 #[.agg #[vI a.px,vI a.py,vI a.vx,vI a.vy,vI a.inv],.agg #[vI b.px,vI b.py,vI b.vx,vI b.vy,vI b.inv],.agg #[vI c.nx,vI c.ny,vI c.d],vI rest] F (.tuple #[.agg #[vI (((cr a b c rest).1).px),vI (((cr a b c rest).1).py),vI (((cr a b c rest).1).vx),vI (((cr a b c rest).1).vy),vI (((cr a b c rest).1).inv)],.agg #[vI (((cr a b c rest).2).px),vI (((cr a b c rest).2).py),vI (((cr a b c rest).2).vx),vI (((cr a b c rest).2).vy),vI (((cr a b c rest).2).inv)]]):=by
 refine QT Tryz.func281<|ae 26 [.o 4,.o 3] λ n1=>aaq (i64.wrap (a.inv+b.inv)=0) 22 (λ h2=>?_) λ h2=>?_
 ·refine OU 2<|aap [2,3] [2,3,4]<|ag [2,3,4] [0,1] (ow 4 5++[.ro 1,.ro 1,.ro 1,.ro 1,.ro 1])<|SV 2 [2,3,4] (ow 1 5)<|SV 3 [2,3,4] (ow 0 5)<|Q2 1<|QV (ow 1 5++ow 0 5) [] [] (.tuple #[.agg #[vI a.px,vI a.py,vI a.vx,vI a.vy,vI a.inv],.agg #[vI b.px,vI b.py,vI b.vx,vI b.vy,vI b.inv]]) [] ⟨?_,rfl⟩;rw[show cr a b c rest=(a,b) from if_pos (show aR (a.inv+b.inv)=0 from h2)]
 ·refine OU 4<|aap [6,7] [0,1,2,3,4]<|ag [0,1,2,3,4] [0,2,1,3] (ow 4 5++[.ro 3,.ro 3,.ro 3,.ro 3,.ro 3])<|lM (σ:=Nat×Nat) (λ ⟨n5,n6⟩=>⟨[(3,vI rest),(4,vP (n1+0) 0),(5,vP (n1+1) 0),(6,vP (n1+2) 0),(8,vP (n1+3) 0),(9,vP (n1+4) 0),(10,vI (i64.wrap (a.inv+b.inv))),(11,vP (n5+0) 0),(12,vP (n6+0) 0)],[((n6+0),.lit [vI b.px,vI b.py,vI b.vx,vI b.vy,vI b.inv] 371 (0,0)),((n5+0),.lit [vI a.px,vI a.py,vI a.vx,vI a.vy,vI a.inv] 371 (0,0)),((n1+4),.lit [vI 0,vI 0,vI 0,vI 0,vI 0] 73 (0,0)),((n1+3),.lit [vI 0,vI 0,vI 0,vI 0,vI 0] 73 (0,0)),((n1+2),.lit [vI c.nx,vI c.ny,vI c.d] 291 (0,0)),((n1+1),.lit [vI b.px,vI b.py,vI b.vx,vI b.vy,vI b.inv] 73 (0,0)),((n1+0),.lit [vI a.px,vI a.py,vI a.vx,vI a.vy,vI a.inv] 73 (0,0))],[],True,0⟩) ?_ ?_
  ·rintro⟨n5,n6⟩;refine OU 9<|aap [] []<|ag [] [0,2,5,1,3,6] [.o 5,.o 5,.o 6,.o 6,.o 4,.o 4]<|aae [] 4 (λ X_=>(i9 (⟨b.vx,b.vy⟩:V2) (⟨a.vx,a.vy⟩:V2)))<|aae [] 7 (λ X_=>(oO (bQ (⟨b.vx,b.vy⟩:V2) (⟨a.vx,a.vy⟩:V2)) (⟨c.nx,c.ny⟩:V2)))<|aem [8]<|Q2 7<|aaq (cX (bQ (⟨b.vx,b.vy⟩:V2) (⟨a.vx,a.vy⟩:V2)) (⟨c.nx,c.ny⟩:V2)<0) 39 (λ h7=>?_) λ h7=>?_
   ·refine OU 8<|aal (gy (i64.wrap (0-(cX (bQ (⟨b.vx,b.vy⟩:V2) (⟨a.vx,a.vy⟩:V2)) (⟨c.nx,c.ny⟩:V2)))) (i64.wrap (1024+rest)) (i64.wrap (a.inv+b.inv)))<|SO 10 [.o 6]<|aal (oN (az (i64.wrap (0-(cX (bQ (⟨b.vx,b.vy⟩:V2) (⟨a.vx,a.vy⟩:V2)) (⟨c.nx,c.ny⟩:V2)))) (i64.wrap (1024+rest)) (i64.wrap (a.inv+b.inv))) a.inv)<|aam [1] [] (wg a c (eZ (az (i64.wrap (0-(cX (bQ (⟨b.vx,b.vy⟩:V2) (⟨a.vx,a.vy⟩:V2)) (⟨c.nx,c.ny⟩:V2)))) (i64.wrap (1024+rest)) (i64.wrap (a.inv+b.inv))) a.inv) (n5+0) (qc:=n1+2) (aw 3)) ?_;rintro _ _ _;refine SO 8 [.o 5]<|aal (oN (az (i64.wrap (0-(cX (bQ (⟨b.vx,b.vy⟩:V2) (⟨a.vx,a.vy⟩:V2)) (⟨c.nx,c.ny⟩:V2)))) (i64.wrap (1024+rest)) (i64.wrap (a.inv+b.inv))) b.inv)<|aam [1] [] (xZ b c (eZ (az (i64.wrap (0-(cX (bQ (⟨b.vx,b.vy⟩:V2) (⟨a.vx,a.vy⟩:V2)) (⟨c.nx,c.ny⟩:V2)))) (i64.wrap (1024+rest)) (i64.wrap (a.inv+b.inv))) b.inv) (n6+0) (qc:=n1+2) (aw 3)) ?_;rintro _ _ _;refine SO 11 [.o 4,.o 6]<|aal (gy c.d a.inv (i64.wrap (a.inv+b.inv)))<|aam [1] [] (qt (ff a (au ⟨c.nx,c.ny⟩ (eZ (az (i64.wrap (0-(cX (bQ (⟨b.vx,b.vy⟩:V2) (⟨a.vx,a.vy⟩:V2)) (⟨c.nx,c.ny⟩:V2)))) (i64.wrap (1024+rest)) (i64.wrap (a.inv+b.inv))) a.inv))) c (az c.d a.inv (i64.wrap (a.inv+b.inv))) (n5+0) (qc:=n1+2) (aw 3)) ?_;rintro _ _ _;refine SO 11 [.o 4,.o 5]<|aal (gy c.d b.inv (i64.wrap (a.inv+b.inv)))<|aam [1] [] (qs (dD b (au ⟨c.nx,c.ny⟩ (eZ (az (i64.wrap (0-(cX (bQ (⟨b.vx,b.vy⟩:V2) (⟨a.vx,a.vy⟩:V2)) (⟨c.nx,c.ny⟩:V2)))) (i64.wrap (1024+rest)) (i64.wrap (a.inv+b.inv))) b.inv))) c (az c.d b.inv (i64.wrap (a.inv+b.inv))) (n6+0) (qc:=n1+2) (aw 3)) ?_;rintro _ _ _;refine OU 4<|aal (jG (dZ (ff a (au ⟨c.nx,c.ny⟩ (eZ (az (i64.wrap (0-(cX (bQ (⟨b.vx,b.vy⟩:V2) (⟨a.vx,a.vy⟩:V2)) (⟨c.nx,c.ny⟩:V2)))) (i64.wrap (1024+rest)) (i64.wrap (a.inv+b.inv))) a.inv))) (au ⟨c.nx,c.ny⟩ (az c.d a.inv (i64.wrap (a.inv+b.inv))))) (q:=n5+0) (aw 1))<|aal (jG (gn (dD b (au ⟨c.nx,c.ny⟩ (eZ (az (i64.wrap (0-(cX (bQ (⟨b.vx,b.vy⟩:V2) (⟨a.vx,a.vy⟩:V2)) (⟨c.nx,c.ny⟩:V2)))) (i64.wrap (1024+rest)) (i64.wrap (a.inv+b.inv))) b.inv))) (au ⟨c.nx,c.ny⟩ (az c.d b.inv (i64.wrap (a.inv+b.inv))))) (q:=n6+0) (aw 0))<|SO 4 (ow 3 5++ow 2 5)<|QV (ow 3 5++ow 2 5) [] [] (.tuple #[.agg #[vI ((gB (dZ (ff a (au ⟨c.nx,c.ny⟩ (eZ (az (i64.wrap (0-(cX (bQ (⟨b.vx,b.vy⟩:V2) (⟨a.vx,a.vy⟩:V2)) (⟨c.nx,c.ny⟩:V2)))) (i64.wrap (1024+rest)) (i64.wrap (a.inv+b.inv))) a.inv))) (au ⟨c.nx,c.ny⟩ (az c.d a.inv (i64.wrap (a.inv+b.inv)))))).px),vI ((gB (dZ (ff a (au ⟨c.nx,c.ny⟩ (eZ (az (i64.wrap (0-(cX (bQ (⟨b.vx,b.vy⟩:V2) (⟨a.vx,a.vy⟩:V2)) (⟨c.nx,c.ny⟩:V2)))) (i64.wrap (1024+rest)) (i64.wrap (a.inv+b.inv))) a.inv))) (au ⟨c.nx,c.ny⟩ (az c.d a.inv (i64.wrap (a.inv+b.inv)))))).py),vI ((gB (dZ (ff a (au ⟨c.nx,c.ny⟩ (eZ (az (i64.wrap (0-(cX (bQ (⟨b.vx,b.vy⟩:V2) (⟨a.vx,a.vy⟩:V2)) (⟨c.nx,c.ny⟩:V2)))) (i64.wrap (1024+rest)) (i64.wrap (a.inv+b.inv))) a.inv))) (au ⟨c.nx,c.ny⟩ (az c.d a.inv (i64.wrap (a.inv+b.inv)))))).vx),vI ((gB (dZ (ff a (au ⟨c.nx,c.ny⟩ (eZ (az (i64.wrap (0-(cX (bQ (⟨b.vx,b.vy⟩:V2) (⟨a.vx,a.vy⟩:V2)) (⟨c.nx,c.ny⟩:V2)))) (i64.wrap (1024+rest)) (i64.wrap (a.inv+b.inv))) a.inv))) (au ⟨c.nx,c.ny⟩ (az c.d a.inv (i64.wrap (a.inv+b.inv)))))).vy),vI ((gB (dZ (ff a (au ⟨c.nx,c.ny⟩ (eZ (az (i64.wrap (0-(cX (bQ (⟨b.vx,b.vy⟩:V2) (⟨a.vx,a.vy⟩:V2)) (⟨c.nx,c.ny⟩:V2)))) (i64.wrap (1024+rest)) (i64.wrap (a.inv+b.inv))) a.inv))) (au ⟨c.nx,c.ny⟩ (az c.d a.inv (i64.wrap (a.inv+b.inv)))))).inv)],.agg #[vI ((gB (gn (dD b (au ⟨c.nx,c.ny⟩ (eZ (az (i64.wrap (0-(cX (bQ (⟨b.vx,b.vy⟩:V2) (⟨a.vx,a.vy⟩:V2)) (⟨c.nx,c.ny⟩:V2)))) (i64.wrap (1024+rest)) (i64.wrap (a.inv+b.inv))) b.inv))) (au ⟨c.nx,c.ny⟩ (az c.d b.inv (i64.wrap (a.inv+b.inv)))))).px),vI ((gB (gn (dD b (au ⟨c.nx,c.ny⟩ (eZ (az (i64.wrap (0-(cX (bQ (⟨b.vx,b.vy⟩:V2) (⟨a.vx,a.vy⟩:V2)) (⟨c.nx,c.ny⟩:V2)))) (i64.wrap (1024+rest)) (i64.wrap (a.inv+b.inv))) b.inv))) (au ⟨c.nx,c.ny⟩ (az c.d b.inv (i64.wrap (a.inv+b.inv)))))).py),vI ((gB (gn (dD b (au ⟨c.nx,c.ny⟩ (eZ (az (i64.wrap (0-(cX (bQ (⟨b.vx,b.vy⟩:V2) (⟨a.vx,a.vy⟩:V2)) (⟨c.nx,c.ny⟩:V2)))) (i64.wrap (1024+rest)) (i64.wrap (a.inv+b.inv))) b.inv))) (au ⟨c.nx,c.ny⟩ (az c.d b.inv (i64.wrap (a.inv+b.inv)))))).vx),vI ((gB (gn (dD b (au ⟨c.nx,c.ny⟩ (eZ (az (i64.wrap (0-(cX (bQ (⟨b.vx,b.vy⟩:V2) (⟨a.vx,a.vy⟩:V2)) (⟨c.nx,c.ny⟩:V2)))) (i64.wrap (1024+rest)) (i64.wrap (a.inv+b.inv))) b.inv))) (au ⟨c.nx,c.ny⟩ (az c.d b.inv (i64.wrap (a.inv+b.inv)))))).vy),vI ((gB (gn (dD b (au ⟨c.nx,c.ny⟩ (eZ (az (i64.wrap (0-(cX (bQ (⟨b.vx,b.vy⟩:V2) (⟨a.vx,a.vy⟩:V2)) (⟨c.nx,c.ny⟩:V2)))) (i64.wrap (1024+rest)) (i64.wrap (a.inv+b.inv))) b.inv))) (au ⟨c.nx,c.ny⟩ (az c.d b.inv (i64.wrap (a.inv+b.inv)))))).inv)]]) [] ⟨?_,rfl⟩;rw[show cr a b c rest=_ from if_neg (show ¬ aR (a.inv+b.inv)=0 from h2)];rw[show TM a b c rest=_ from if_pos (show rsSp a b c<0 from h7),show TN a b c rest=_ from if_pos (show rsSp a b c<0 from h7)]
    first|rfl|skip
   ·refine SO 12 [.o 4,.o 6]<|aal (gy c.d a.inv (i64.wrap (a.inv+b.inv)))<|aam [1] [] (qt a c (az c.d a.inv (i64.wrap (a.inv+b.inv))) (n5+0) (qc:=n1+2) (aw 3)) ?_;rintro _ _ _;refine SO 11 [.o 4,.o 5]<|aal (gy c.d b.inv (i64.wrap (a.inv+b.inv)))<|aam [1] [] (qs b c (az c.d b.inv (i64.wrap (a.inv+b.inv))) (n6+0) (qc:=n1+2) (aw 3)) ?_;rintro _ _ _;refine OU 4<|aal (jG (dZ a (au ⟨c.nx,c.ny⟩ (az c.d a.inv (i64.wrap (a.inv+b.inv))))) (q:=n5+0) (aw 1))<|aal (jG (gn b (au ⟨c.nx,c.ny⟩ (az c.d b.inv (i64.wrap (a.inv+b.inv))))) (q:=n6+0) (aw 0))<|SO 4 (ow 3 5++ow 2 5)<|QV (ow 3 5++ow 2 5) [] [] (.tuple #[.agg #[vI ((gB (dZ a (au ⟨c.nx,c.ny⟩ (az c.d a.inv (i64.wrap (a.inv+b.inv)))))).px),vI ((gB (dZ a (au ⟨c.nx,c.ny⟩ (az c.d a.inv (i64.wrap (a.inv+b.inv)))))).py),vI ((gB (dZ a (au ⟨c.nx,c.ny⟩ (az c.d a.inv (i64.wrap (a.inv+b.inv)))))).vx),vI ((gB (dZ a (au ⟨c.nx,c.ny⟩ (az c.d a.inv (i64.wrap (a.inv+b.inv)))))).vy),vI ((gB (dZ a (au ⟨c.nx,c.ny⟩ (az c.d a.inv (i64.wrap (a.inv+b.inv)))))).inv)],.agg #[vI ((gB (gn b (au ⟨c.nx,c.ny⟩ (az c.d b.inv (i64.wrap (a.inv+b.inv)))))).px),vI ((gB (gn b (au ⟨c.nx,c.ny⟩ (az c.d b.inv (i64.wrap (a.inv+b.inv)))))).py),vI ((gB (gn b (au ⟨c.nx,c.ny⟩ (az c.d b.inv (i64.wrap (a.inv+b.inv)))))).vx),vI ((gB (gn b (au ⟨c.nx,c.ny⟩ (az c.d b.inv (i64.wrap (a.inv+b.inv)))))).vy),vI ((gB (gn b (au ⟨c.nx,c.ny⟩ (az c.d b.inv (i64.wrap (a.inv+b.inv)))))).inv)]]) [] ⟨?_,rfl⟩;rw[show cr a b c rest=_ from if_neg (show ¬ aR (a.inv+b.inv)=0 from h2)];rw[show TM a b c rest=_ from if_neg (show ¬ rsSp a b c<0 from h7),show TN a b c rest=_ from if_neg (show ¬ rsSp a b c<0 from h7)]
    first|rfl|skip
  ·intro Zi;refine dg 4 5 ?_ ?_
   ·refine aai [] [] λ n9=>aag 5 (aai [] [] λ Wi=>?_);refine SV 6 [2,3,4,5,6] (ow 1 5)<|SV 7 [2,3,4,5,6] (ow 0 5)<|Zi ⟨n9,Wi⟩ [0,1,2,3,4,5,6] []
   ·refine aai [] [] λ n11=>aag 4 (aai [] [] λ n12=>?_);refine SV 6 [2,3,4,5,6] (ow 0 5)<|SV 7 [2,3,4,5,6] (ow 1 5)<|Zi ⟨n12,n11⟩ [1,0,2,3,4,5,6] []
def il(pos vel:V2)(k:Int):V2:=aF pos (cK vel k 8)
def r7(a:Shp)(pa va:V2)(b:Shp)(pb vb:V2)(k:Int):Bool:=(cq a (il pa va k) b (il pb vb k)).2
def sa(a:Shp)(pa va:V2)(b:Shp)(pb vb:V2):Nat->Nat->Int
 |0,_=>1024
 |n+1,k=>if r7 a pa va b pb vb ((k:Int)+1)=true then ((k:Int)*1024)/8 else sa a pa va b pb vb n (k+1)
def nv(a:Shp)(pa va:V2)(b:Shp)(pb vb:V2):Int:=if r7 a pa va b pb vb 0=true then 1024 else sa a pa va b pb vb 8 0
theorem uv(pos:V2)(vel:V2)(k:Int):aen 321 #[.agg #[vI pos.x,vI pos.y],.agg #[vI vel.x,vI vel.y],vI k] F (.agg #[vI ((il pos vel k).x),vI ((il pos vel k).y)]):=by
 refine QT Tryz.func321<|ae 8 [] λ n1=>aap [5] []<|ag [] [0,1,2] [.o 2,.o 2,.o 1,.o 1]<|aae [] 3 (λ X_=>(lN vel k 8))<|aae [] 4 (λ X_=>(fc pos (cK vel k 8)))<|SV 5 [] (aab 2)<|aaf<|ae 1 [] λ _=>aav (aab 2) [] [] ⟨rfl,rfl⟩
theorem uw{a:Shp}{b:Shp}(k:Int){q1 q2 q3 q4 q5 q6:Nat}(ha:ShIn F a)(hb:ShIn F b)(Yk:(q1,.lit [vI a.r,.slice a.A a.poly.length a.cap] 70 (0,0))∈F)(Vh:(q2,.lit [vI pa.x,vI pa.y] 32 (0,0))∈F)(Yj:(q3,.lit [vI va.x,vI va.y] 32 (0,0))∈F)(X2:(q4,.lit [vI b.r,.slice b.A b.poly.length b.cap] 70 (0,0))∈F)(hq5:(q5,.lit [vI pb.x,vI pb.y] 32 (0,0))∈F)(hq6:(q6,.lit [vI vb.x,vI vb.y] 32 (0,0))∈F):aen 320 #[vI k,vP q1 0,vP q2 0,vP q3 0,vP q4 0,vP q5 0,vP q6 0] F (.bool (r7 a pa va b pb vb k)):=by
 refine rI Tryz.func320 (mc Yk (mc Vh (mc Yj (mc X2 (mc hq5 (mc hq6 mn)))))) [] []<|OU 6<|aap [15] []<|ag [] [0,1,2,3,5,6,7,8] [.ro 0,.ro 0,.ro 1,.ro 1,.ro 2,.ro 2,.ro 3,.ro 3,.ro 4,.ro 4,.ro 5,.ro 5]<|aae [] 4 (λ X_=>(uv pa va k))<|aae [] 9 (λ X_=>(uv pb vb k))<|aae [] 10 (λ X_=>(qp a (il pa va k) b (il pb vb k) (ha.up.up) (hb.up.up)))<|aem [11,12,13]<|aag 14 (aai [] [] λ n2=>?_);refine SV 15 [] (aab 3)<|aem [16]<|aaf<|ae 7 [] λ _=>QW _ _ ⟨rfl,rfl⟩
theorem wh(a:Shp)(pa va:V2)(b:Shp)(pb vb:V2)(ha:ShIn F a)(hb:ShIn F b):aen 283 #[.agg #[vI a.r,.slice a.A a.poly.length a.cap],.agg #[vI pa.x,vI pa.y],.agg #[vI va.x,vI va.y],.agg #[vI b.r,.slice b.A b.poly.length b.cap],.agg #[vI pb.x,vI pb.y],.agg #[vI vb.x,vI vb.y]] F (vI (nv a pa va b pb vb)):=by
 refine QT Tryz.func283<|ae 21 [] λ n1=>aal (uw pa va pb vb 0 (q1:=n1+0) (q2:=n1+1) (q3:=n1+2) (q4:=n1+3) (q5:=n1+4) (q6:=n1+5) ha.up hb.up (aw 5) (aw 4) (aw 3) (aw 2) (aw 1) (aw 0))<|OU 2<|cP (r7 a pa va b pb vb 0) 17 (λ h2=>?_) λ h2=>?_
 ·refine ae 6 [] λ _=>QW (vI 1024) _ ⟨by rw[nv,if_pos h2],rfl⟩
 ·refine OU 10<|aat (σ:=Nat) (λ n=>⟨[(13,.func (.func 320) #[] #[vP (n1+0) 0,vP (n1+1) 0,vP (n1+2) 0,vP (n1+3) 0,vP (n1+4) 0,vP (n1+5) 0]),(18,vI (n:Int))],[((n1+5),.lit [vI vb.x,vI vb.y] 32 (0,0)),((n1+4),.lit [vI pb.x,vI pb.y] 32 (0,0)),((n1+3),.lit [vI b.r,.slice b.A b.poly.length b.cap] 70 (0,0)),((n1+2),.lit [vI va.x,vI va.y] 32 (0,0)),((n1+1),.lit [vI pa.x,vI pa.y] 32 (0,0)),((n1+0),.lit [vI a.r,.slice a.A a.poly.length a.cap] 70 (0,0))],[],n<=8/\sa a pa va b pb vb (8-n) n=sa a pa va b pb vb 8 0,8-n⟩) 0 [0,1,2,3,4,5] [] (⟨aaJ _,rfl⟩) ?_;rintro n ⟨WJ,hE_⟩ YA;refine OU 6<|aaq ((n:Int)<8) 19 (λ h5=>?_) λ h5=>?_
  ·refine ah 16 [.nw] [aI ((n:Int)+1)] λ _=>aal (uw pa va pb vb ((n:Int)+1) (q1:=n1+0) (q2:=n1+1) (q3:=n1+2) (q4:=n1+3) (q5:=n1+4) (q6:=n1+5) ha.up hb.up (aw 5) (aw 4) (aw 3) (aw 2) (aw 1) (aw 0))<|OU 2<|cP (r7 a pa va b pb vb ((n:Int)+1)) 24 (λ h6=>?_) λ h6=>?_
   ·refine ah 9 [.nw,.nw] [0<=(n:Int)*1024/\(0:Int)<8/\(n:Int)*1024<=9223372036854775807,aI ((n:Int)*1024)] λ _=>QW (vI (((n:Int)*1024)/8)) [] ⟨?_,rfl⟩;rw[nv,if_neg h2,<- hE_];rw[show 8-n=(8-(n+1))+1 by omega,sa,if_pos h6]
   ·refine ah 8 [.nw] [aI ((n:Int)+1)] λ _=>YA (n+1) [0,1,2,3,4,5] [] ?_
    try dsimp only
    refine⟨⟨by omega,?_⟩,by omega⟩;rw[<- hE_,show 8-n=(8-(n+1))+1 by omega,sa,if_neg h6]
  ·refine OU 11<|QW (vI 1024) [] ⟨?_,rfl⟩;rw[nv,if_neg h2,<- hE_];rw[show 8-n=0 by omega,sa]
def tQ(t:Stp)(M:MemS):Con×Bool:=cq (t.S.body t.i.toNat).sh ⟨(av t.S M t.i).px,(av t.S M t.i).py⟩ (t.S.body t.j.toNat).sh ⟨(av t.S M t.j).px,(av t.S M t.j).py⟩
def yb(t:Stp)(M:MemS):Mot×Mot:=cr (av t.S M t.i) (av t.S M t.j) (tQ t M).1 t.S.rest
def fH(t:Stp)(M:MemS):MemS:=((dh t t.j (yb t M).2 (dh t t.i (yb t M).1 M)).set (af t.S t.i+6) (aR (t.j+1))).set (af t.S t.j+6) (aR (t.i+1))
def dE(t:Stp)(M:MemS):MemS:=if 0<=t.i/\t.i<t.S.nb then if 0<=t.j/\t.j<t.S.nb then if (tQ t M).2=true then fH t M else M else M else M
def tR(t:Stp)(M:MemS):Int:=nv (t.S.body t.i.toNat).sh ⟨(av t.S M t.i).px,(av t.S M t.i).py⟩ ⟨(av t.S M t.i).vx,(av t.S M t.i).vy⟩ (t.S.body t.j.toNat).sh ⟨(av t.S M t.j).px,(av t.S M t.j).py⟩ ⟨0,0⟩
def eI(t:Stp)(M:MemS):MemS:=if t.i=t.j then M else if movP t.S t.i then (if tR t M<M.get 5 then M.set 5 (tR t M) else M) else M
def fI(t:Stp)(M:MemS):MemS:=if aR (t.i+1)<t.S.nb then ((M.set 2 (aR (t.i+1))).set 3 0).set 5 1024 else (bd t 6 0 M).set 5 0
def dJ(t:Stp)(M:MemS):MemS:=if 0<=t.j/\t.j<t.S.nb then (eI t M).set 3 (aR (t.j+1)) else fI t (if movP t.S t.i then cL t M else M)
def dp(i j n r:Int):Int×Int×Int:=if aR (j+1)<n then (r,i,aR (j+1)) else if aR (i+2)<n then (r,aR (i+1),aR (i+2)) else (aR (r+1),0,1)
def bA(t:Stp)(M:MemS):MemS:=if (t.S.nb:Int)<2 then (bd t 5 0 M).set 5 1024 else if M.get 4>=t.S.rounds then (bd t 5 0 M).set 5 1024 else (((dE t M).set 4 (dp t.i t.j t.S.nb (M.get 4)).1).set 2 (dp t.i t.j t.S.nb (M.get 4)).2.1).set 3 (dp t.i t.j t.S.nb (M.get 4)).2.2
theorem Bo (hM:MemH mb M (k+10) T) (hS:SetIn F t.S) :aeo 239 #[vP tb 0] (ap [(tb,.lit (Stp.l t mb) 281 (0,0))] [T]) F (λ u H'=>∃x,H'=ap [(tb,.lit (Stp.l t mb) 281 (0,0))] [x]/\(MemH mb (dE t M) k x)):=by
 have hp:=hS.pl;have hn:=hS.nb;have hr:=hS.room;refine QS Tryz.func239 (mc hS.blk mn)<|SO 8 [.o 0]<|aal (rg (t:=t) t.i (tb:=tb) (mb:=mb) (aw 0))<|OU 2<|aar (0<=t.i/\t.i<t.S.nb) 13 (λ h1=>?_) λ h1=>?_
 ·refine SO 5 [.o 0]<|aal (rg (t:=t) t.j (tb:=tb) (mb:=mb) (aw 0))<|OU 4<|aar (0<=t.j/\t.j<t.S.nb) 21 (λ h2=>?_) λ h2=>?_
  ·refine OU 4<|aap [14,15] []<|ag [] [0,1,6,7,2,8,3,9,4,10] (aab 2)<|aae [] 5 (λ X_=>(gA (t:=t) (tb:=tb) (fD 0) hS.up.up hM (aY 0) h1))<|aae [] 11 (λ X_=>(gA (t:=t) (tb:=tb) (fD 0) hS.up.up hM (aY 0) h2))<|lM (σ:=Nat×Nat) (λ ⟨n3,n4⟩=>⟨[(0,vP tb 0),(2,vP (n3+0) 0),(3,vP (n4+0) 0)],[((n4+0),.lit [vI ((av t.S M t.j).px),vI ((av t.S M t.j).py),vI ((av t.S M t.j).vx),vI ((av t.S M t.j).vy),vI ((av t.S M t.j).inv)] 73 (0,0)),((n3+0),.lit [vI ((av t.S M t.i).px),vI ((av t.S M t.i).py),vI ((av t.S M t.i).vx),vI ((av t.S M t.i).vy),vI ((av t.S M t.i).inv)] 73 (0,0)),(tb,.lit (Stp.l t mb) 281 (0,0))],[T],True,0⟩) ?_ ?_
   ·rintro⟨n3,n4⟩;refine OU 2<|aap [33] [0,1,2]<|aA [0,1,2] [0,5,12,14,19,26,1,6,13,15,20,27,2,7,16,21,3,8,17,22,4,18,9,23,10,24,11,25] [.o 1,.o 1,.o 0,.o 0,.o 2,.o 2,.o 2,.o 2,.ix ((t.i).toNat),.ix ((t.j).toNat),.rorow 0 (t.S.bo+((t.i).toNat)) 0,.rorow 0 (t.S.bo+((t.i).toNat)) 1,.rorow 0 (t.S.bo+((t.j).toNat)) 0,.rorow 0 (t.S.bo+((t.j).toNat)) 1] [((t.S.bo*9+((t.j).toNat)*9)+1)=(t.S.bo+((t.j).toNat))*9+1/\(t.S.bo+((t.j).toNat))<t.S.bR,(t.S.bo*9+((t.j).toNat)*9)=(t.S.bo+((t.j).toNat))*9+0/\(t.S.bo+((t.j).toNat))<t.S.bR,((t.S.bo*9+((t.i).toNat)*9)+1)=(t.S.bo+((t.i).toNat))*9+1/\(t.S.bo+((t.i).toNat))<t.S.bR,(t.S.bo*9+((t.i).toNat)*9)=(t.S.bo+((t.i).toNat))*9+0/\(t.S.bo+((t.i).toNat))<t.S.bR,t.j=(((t.j).toNat:Nat):Int)/\(t.j).toNat<t.S.nb,t.i=(((t.i).toNat:Nat):Int)/\(t.i).toNat<t.S.nb]<|aae [0,1,2] 28 (λ X_=>(qp (t.S.bods.getD (t.S.bo+((t.i).toNat)) dB).sh (⟨(av t.S M t.i).px,(av t.S M t.i).py⟩:V2) (t.S.bods.getD (t.S.bo+((t.j).toNat)) dB).sh (⟨(av t.S M t.j).px,(av t.S M t.j).py⟩:V2) ((hS.shp ((t.i).toNat) (by omega)).up.up) ((hS.shp ((t.j).toNat) (by omega)).up.up)))<|ag [0,1,2] [29,30,31] []<|aag 32 (aai [] [] λ n6=>?_);refine SV 33 [1,2,3] (aab 3)<|ag [1,2,3] [34] []<|Q2 8<|oK ((cq (t.S.bods.getD (t.S.bo+((t.i).toNat)) dB).sh (⟨(av t.S M t.i).px,(av t.S M t.i).py⟩:V2) (t.S.bods.getD (t.S.bo+((t.j).toNat)) dB).sh (⟨(av t.S M t.j).px,(av t.S M t.j).py⟩:V2)).2) 67 (λ h7=>?_) λ h7=>?_
    ·refine OU 4<|aap [12,13] [0,3]<|ag [0,3] [0,1,2,3,4,5,6,7] (ow 2 5++ow 1 5++(aab 3++[.o 3]))<|aae [0,3] 8 (λ X_=>(ya (av t.S M t.i) (av t.S M t.j) (cq (t.S.bods.getD (t.S.bo+((t.i).toNat)) dB).sh (⟨(av t.S M t.i).px,(av t.S M t.i).py⟩:V2) (t.S.bods.getD (t.S.bo+((t.j).toNat)) dB).sh (⟨(av t.S M t.j).px,(av t.S M t.j).py⟩:V2)).1 t.S.rest))<|ag [0,3] [9,10,11] []<|SV 12 [0,3] (ow 2 5)<|SV 13 [0,3] (ow 1 5)<|Q2 2<|aap [6] []<|ag [] [0,1,5,2,3,4] (ow 2 5++[.o 3])<|aag 6 (aah [] [3] [0] (nq t t.i ((cr (av t.S M t.i) (av t.S M t.j) (cq (t.S.bods.getD (t.S.bo+((t.i).toNat)) dB).sh (⟨(av t.S M t.i).px,(av t.S M t.i).py⟩:V2) (t.S.bods.getD (t.S.bo+((t.j).toNat)) dB).sh (⟨(av t.S M t.j).px,(av t.S M t.j).py⟩:V2)).1 t.S.rest).1) tb (k+6) hM hS.up ) ?_);rintro _ T8 YP;refine Q2 2<|aap [6] []<|ag [] [0,1,5,2,3,4] (ow 2 5++[.o 0])<|aag 6 (aah [] [0] [0] (nq t t.j ((cr (av t.S M t.i) (av t.S M t.j) (cq (t.S.bods.getD (t.S.bo+((t.i).toNat)) dB).sh (⟨(av t.S M t.i).px,(av t.S M t.i).py⟩:V2) (t.S.bods.getD (t.S.bo+((t.j).toNat)) dB).sh (⟨(av t.S M t.j).px,(av t.S M t.j).py⟩:V2)).1 t.S.rest).2) tb (k+2) YP hS.up ) ?_);rintro _ W7 We;refine Q2 2<|aap [21] []<|ag [] [0,4,8,14,1,5,9,15,2,6,10,16,3,7,11,17,18,19,20] (ow 0 19)<|aae [] 12 (λ X_=>(dq t.i hS.toSetN)) ?_;have ajL:=bT hS.toSetN t.i;refine aA [] [13] [.nw] [aI ((af t.S t.i)+6)]<|aag 21 (aah [] [] [0] (ar ((af t.S t.i)+6) (i64.wrap (t.j+1)) We) ?_);rintro _ WC Vt;refine Q2 1<|aap [21] []<|ag [] [0,4,8,14,1,5,9,15,2,6,10,16,3,7,11,17,18,19,20] (ow 0 19)<|aae [] 12 (λ X_=>(dq t.j hS.toSetN)) ?_;have aqs:=bT hS.toSetN t.j;refine aA [] [13] [.nw] [aI ((af t.S t.j)+6)]<|aag 21 (aah [] [] [0] (ar ((af t.S t.j)+6) (i64.wrap (t.i+1)) Vt) ?_);rintro _ YX Yf;refine aaf ?_;have e:dE t M=(((dh t t.j ((cr (av t.S M t.i) (av t.S M t.j) (cq (t.S.bods.getD (t.S.bo+((t.i).toNat)) dB).sh (⟨(av t.S M t.i).px,(av t.S M t.i).py⟩:V2) (t.S.bods.getD (t.S.bo+((t.j).toNat)) dB).sh (⟨(av t.S M t.j).px,(av t.S M t.j).py⟩:V2)).1 t.S.rest).2) (dh t t.i ((cr (av t.S M t.i) (av t.S M t.j) (cq (t.S.bods.getD (t.S.bo+((t.i).toNat)) dB).sh (⟨(av t.S M t.i).px,(av t.S M t.i).py⟩:V2) (t.S.bods.getD (t.S.bo+((t.j).toNat)) dB).sh (⟨(av t.S M t.j).px,(av t.S M t.j).py⟩:V2)).1 t.S.rest).1) M)).set ((af t.S t.i)+6) (i64.wrap (t.j+1))).set ((af t.S t.j)+6) (i64.wrap (t.i+1))):=by
      unfold dE;rw[if_pos (show 0<=t.i/\t.i<t.S.nb from h1),if_pos (show 0<=t.j/\t.j<t.S.nb from h2),if_pos (show (tQ t M).2=true from h7)]
      first|done|rfl
     exact aav [] [0] [0] (v:=.tuple #[]) ⟨YX,rfl,by rw[e];exact Yf.weak (by omega)⟩
    ·refine ae 1 [] λ _=>?_;have e:dE t M=M:=by
      unfold dE;rw[if_pos (show 0<=t.i/\t.i<t.S.nb from h1),if_pos (show 0<=t.j/\t.j<t.S.nb from h2),if_neg (show ¬ ((tQ t M).2=true) from h7)]
      first|done|rfl
     exact aav [] [3] [0] (v:=.tuple #[]) ⟨T,rfl,by rw[e];exact hM.weak (by omega)⟩
   ·intro abO;refine dg 12 13 ?_ ?_
    ·refine aai [] [] λ n19=>aag 13 (aai [] [] λ Yy=>?_);refine SV 14 [] (ow 1 5)<|SV 15 [] (ow 0 5)<|abO ⟨n19,Yy⟩ [0,1,2] [0]
    ·refine aai [] [] λ UP=>aag 12 (aai [] [] λ n22=>?_);refine SV 14 [] (ow 0 5)<|SV 15 [] (ow 1 5)<|abO ⟨n22,UP⟩ [1,0,2] [0]
  ·refine ae 1 [] λ _=>?_;have e:dE t M=M:=by
    unfold dE;rw[if_pos (show 0<=t.i/\t.i<t.S.nb from h1),if_neg (show ¬ (0<=t.j/\t.j<t.S.nb) from h2)]
    first|done|rfl
   exact aav [] [0] [0] (v:=.tuple #[]) ⟨T,rfl,by rw[e];exact hM.weak (by omega)⟩
 ·refine ae 11 [] λ _=>?_;have e:dE t M=M:=by
   unfold dE;rw[if_neg (show ¬ (0<=t.i/\t.i<t.S.nb) from h1)]
   first|done|rfl
  exact aav [] [0] [0] (v:=.tuple #[]) ⟨T,rfl,by rw[e];exact hM.weak (by omega)⟩
theorem EJ (hM:MemH mb M (k+1) T) (hS:SetIn F t.S) (hj:0<=t.j/\t.j<t.S.nb):aeo 242 #[vP tb 0] (ap [(tb,.lit (Stp.l t mb) 281 (0,0))] [T]) F (λ u H'=>∃x,H'=ap [(tb,.lit (Stp.l t mb) 281 (0,0))] [x]/\(MemH mb (eI t M) k x)):=by
 have hp:=hS.pl;have hn:=hS.nb;have hr:=hS.room;refine QS Tryz.func242 (mc hS.blk mn)<|OU 2<|aap [] []<|ag [] [0,4,1,5,2,6,3,7,8,9] (aab 2)<|RD.em (t.i=t.j) 14 (λ h1=>?_) λ h1=>?_
 ·refine aem [10,11,12,13,14,15,16,17]<|aaf<|ae 2 [] λ _=>?_;have e:eI t M=M:=by
   unfold eI;rw[if_pos (show t.i=t.j from h1)]
   first|done|rfl
  exact aav [] [0] [0] (v:=.tuple #[]) ⟨T,rfl,by rw[e];exact hM.weak (by omega)⟩
 ·refine ag [] [10,11,12,13,14] [.o 0]<|aae [] 15 (λ X_=>(lS (t:=t) t.i (tb:=tb) (mb:=mb) (fD 0) hS.up.up))<|aem [16,17]<|Q2 1<|aar (movP t.S t.i) 22 (λ h2=>?_) λ h2=>?_
  ·have:=movP.has h2;refine OU 4<|aap [14,15] []<|ag [] [0,1,6,7,2,8,3,9,4,10] (aab 2)<|aae [] 5 (λ X_=>(gA (t:=t) (i:=t.i) (tb:=tb) (fD 0) hS.up.up hM (aY 0) (movP.has h2)))<|aae [] 11 (λ X_=>(gA (t:=t) (tb:=tb) (fD 0) hS.up.up hM (aY 0) hj))<|lM (σ:=Nat×Nat) (λ ⟨n3,n4⟩=>⟨[(0,vP tb 0),(2,vP (n3+0) 0),(3,vP (n4+0) 0)],[((n4+0),.lit [vI ((av t.S M t.j).px),vI ((av t.S M t.j).py),vI ((av t.S M t.j).vx),vI ((av t.S M t.j).vy),vI ((av t.S M t.j).inv)] 73 (0,0)),((n3+0),.lit [vI ((av t.S M t.i).px),vI ((av t.S M t.i).py),vI ((av t.S M t.i).vx),vI ((av t.S M t.i).vy),vI ((av t.S M t.i).inv)] 73 (0,0)),(tb,.lit (Stp.l t mb) 281 (0,0))],[T],True,0⟩) ?_ ?_
   ·rintro⟨n3,n4⟩;refine OU 2<|aap [] []<|aA [] [0,5,12,14,16,21,28,30,1,6,13,15,17,22,29,2,7,18,23,3,8,19,24,4,20,9,25,10,26,11,27] [.o 1,.o 1,.o 1,.o 1,.o 0,.o 0,.o 2,.o 2,.o 2,.o 2,.ix ((t.i).toNat),.ix ((t.j).toNat),.rorow 0 (t.S.bo+((t.i).toNat)) 0,.rorow 0 (t.S.bo+((t.i).toNat)) 1,.rorow 0 (t.S.bo+((t.j).toNat)) 0,.rorow 0 (t.S.bo+((t.j).toNat)) 1] [((t.S.bo*9+((t.j).toNat)*9)+1)=(t.S.bo+((t.j).toNat))*9+1/\(t.S.bo+((t.j).toNat))<t.S.bR,(t.S.bo*9+((t.j).toNat)*9)=(t.S.bo+((t.j).toNat))*9+0/\(t.S.bo+((t.j).toNat))<t.S.bR,((t.S.bo*9+((t.i).toNat)*9)+1)=(t.S.bo+((t.i).toNat))*9+1/\(t.S.bo+((t.i).toNat))<t.S.bR,(t.S.bo*9+((t.i).toNat)*9)=(t.S.bo+((t.i).toNat))*9+0/\(t.S.bo+((t.i).toNat))<t.S.bR,t.j=(((t.j).toNat:Nat):Int)/\(t.j).toNat<t.S.nb,t.i=(((t.i).toNat:Nat):Int)/\(t.i).toNat<t.S.nb]<|aae [] 31 (λ X_=>(wh (t.S.bods.getD (t.S.bo+((t.i).toNat)) dB).sh (⟨(av t.S M t.i).px,(av t.S M t.i).py⟩:V2) (⟨(av t.S M t.i).vx,(av t.S M t.i).vy⟩:V2) (t.S.bods.getD (t.S.bo+((t.j).toNat)) dB).sh (⟨(av t.S M t.j).px,(av t.S M t.j).py⟩:V2) (⟨0,0⟩:V2) ((hS.shp ((t.i).toNat) (by omega)).up.up) ((hS.shp ((t.j).toNat) (by omega)).up.up)))<|aem [32]<|aaf<|SO 8 [.o 2]<|aal (aD 5 hM (ay 0))<|OU 3<|aaq (nv (t.S.bods.getD (t.S.bo+((t.i).toNat)) dB).sh (⟨(av t.S M t.i).px,(av t.S M t.i).py⟩:V2) (⟨(av t.S M t.i).vx,(av t.S M t.i).vy⟩:V2) (t.S.bods.getD (t.S.bo+((t.j).toNat)) dB).sh (⟨(av t.S M t.j).px,(av t.S M t.j).py⟩:V2) (⟨0,0⟩:V2)<M.get 5) 73 (λ h5=>?_) λ h5=>?_
    ·refine SO 7 [.o 2]<|aam [] [0] (ar 5 (nv (t.S.bods.getD (t.S.bo+((t.i).toNat)) dB).sh (⟨(av t.S M t.i).px,(av t.S M t.i).py⟩:V2) (⟨(av t.S M t.i).vx,(av t.S M t.i).vy⟩:V2) (t.S.bods.getD (t.S.bo+((t.j).toNat)) dB).sh (⟨(av t.S M t.j).px,(av t.S M t.j).py⟩:V2) (⟨0,0⟩:V2)) hM) ?_;rintro _ T6 ZS;refine ae 1 [] λ _=>?_;have e:eI t M=(M.set 5 (nv (t.S.bods.getD (t.S.bo+((t.i).toNat)) dB).sh (⟨(av t.S M t.i).px,(av t.S M t.i).py⟩:V2) (⟨(av t.S M t.i).vx,(av t.S M t.i).vy⟩:V2) (t.S.bods.getD (t.S.bo+((t.j).toNat)) dB).sh (⟨(av t.S M t.j).px,(av t.S M t.j).py⟩:V2) (⟨0,0⟩:V2))):=by
      unfold eI;rw[if_neg (show ¬ (t.i=t.j) from h1),if_pos (show movP t.S t.i from h2),if_pos (show tR t M<M.get 5 from h5)]
      first|done|rfl
     exact aav [] [2] [0] (v:=.tuple #[]) ⟨T6,rfl,by rw[e];exact ZS.weak (by omega)⟩
    ·refine ae 2 [] λ _=>?_;have e:eI t M=M:=by
      unfold eI;rw[if_neg (show ¬ (t.i=t.j) from h1),if_pos (show movP t.S t.i from h2),if_neg (show ¬ (tR t M<M.get 5) from h5)]
      first|done|rfl
     exact aav [] [2] [0] (v:=.tuple #[]) ⟨T,rfl,by rw[e];exact hM.weak (by omega)⟩
   ·intro Zi;refine dg 12 13 ?_ ?_
    ·refine aai [] [] λ n9=>aag 13 (aai [] [] λ Wi=>?_);refine SV 14 [] (ow 1 5)<|SV 15 [] (ow 0 5)<|Zi ⟨n9,Wi⟩ [0,1,2] [0]
    ·refine aai [] [] λ n11=>aag 12 (aai [] [] λ n12=>?_);refine SV 14 [] (ow 0 5)<|SV 15 [] (ow 1 5)<|Zi ⟨n12,n11⟩ [1,0,2] [0]
  ·refine ae 1 [] λ _=>?_;have e:eI t M=M:=by
    unfold eI;rw[if_neg (show ¬ (t.i=t.j) from h1),if_neg (show ¬ (movP t.S t.i) from h2)]
    first|done|rfl
   exact aav [] [0] [0] (v:=.tuple #[]) ⟨T,rfl,by rw[e];exact hM.weak (by omega)⟩
theorem EK (hM:MemH mb M (k+8) T) (hS:SetIn F t.S) :aeo 176 #[vP tb 0] (ap [(tb,.lit (Stp.l t mb) 281 (0,0))] [T]) F (λ u H'=>∃x,H'=ap [(tb,.lit (Stp.l t mb) 281 (0,0))] [x]/\(MemH mb (dJ t M) k x)):=by
 have hp:=hS.pl;have hn:=hS.nb;have hr:=hS.room;refine QS Tryz.func176 (mc hS.blk mn)<|SO 8 [.o 0]<|aal (rg (t:=t) t.j (tb:=tb) (mb:=mb) (aw 0))<|OU 2<|aaq (0<=t.j/\t.j<t.S.nb) 7 (λ h1=>?_) λ h1=>?_
 ·refine OU 4<|aam [0] [0] (EJ t tb (k+7) hM hS.up (by assumption)) ?_;rintro _ T2 W0;refine OU 3<|aap [11] []<|ag [] [0,4,1,5,2,6,3,7,8,9,10] (aab 2)<|aag 11 (aah [] [] [0] (ar 3 (i64.wrap (t.j+1)) W0) ?_);rintro _ T4 Ys;refine aaf<|ae 1 [] λ _=>?_;have e:(dJ t M)=((eI t M).set 3 (i64.wrap (t.j+1))):=by
   first|(simp only[dJ,fI,if_pos h1];try rfl;done)|rfl
  exact aav [] [0] [0] (v:=.tuple #[]) ⟨T4,rfl,by rw[e];exact Ys.weak (by omega)⟩
 ·refine SO 11 [.o 0]<|aal (lS (t:=t) t.i (tb:=tb) (mb:=mb) (aw 0) hS.up)<|OU 2<|aaq (movP t.S t.i) 27 (λ h6=>?_) λ h6=>?_
  ·have:=movP.has h6;refine OU 3<|aam [0] [0] (Bf t tb (k+4) hM hS.up (by assumption)) ?_;rintro _ T7 Xd;refine OU 4<|aap [] []<|ag [] [0,5,1,6,2,7,3,8,4,9,10,11] (aab 2)<|Q2 1<|aaq (i64.wrap (t.i+1)<(t.S.nb:Int)) 41 (λ h9=>?_) λ h9=>?_
   ·refine OU 2<|aap [11] []<|ag [] [0,4,1,5,2,6,3,7,8,9,10] (aab 2)<|aag 11 (aah [] [] [0] (ar 2 (i64.wrap (t.i+1)) Xd) ?_);rintro _ W7 We;refine aaf<|SO 7 [.o 0]<|aam [] [0] (ar 3 0 We) ?_;rintro _ T12 ZV;refine SO 8 [.o 0]<|aam [] [0] (ar 5 1024 ZV) ?_;rintro _ T14 ads;refine ae 2 [] λ _=>?_;have e:(dJ t M)=((((cL t M).set 2 (i64.wrap (t.i+1))).set 3 0).set 5 1024):=by
     first|(simp only[dJ,fI,if_neg h1,if_pos h6,if_pos h9];try rfl;done)|rfl
    exact aav [] [0] [0] (v:=.tuple #[]) ⟨T14,rfl,by rw[e];exact ads.weak (by omega)⟩
   ·refine OU 6<|aam [0] [0] (fp t 6 0 tb (k+1) Xd hS.up ) ?_;rintro _ YX Yf;refine SO 7 [.o 0]<|aam [] [0] (ar 5 0 Yf) ?_;rintro _ T18 ZU;refine ae 1 [] λ _=>?_;have e:(dJ t M)=((bd t 6 0 (cL t M)).set 5 0):=by
     first|(simp only[dJ,fI,if_neg h1,if_pos h6,if_neg h9];try rfl;done)|rfl
    exact aav [] [0] [0] (v:=.tuple #[]) ⟨T18,rfl,by rw[e];exact ZU.weak (by omega)⟩
  ·refine OU 5<|aap [] []<|ag [] [0,5,1,6,2,7,3,8,4,9,10,11] (aab 2)<|Q2 1<|aaq (i64.wrap (t.i+1)<(t.S.nb:Int)) 41 (λ XO=>?_) λ XO=>?_
   ·refine OU 2<|aap [11] []<|ag [] [0,4,1,5,2,6,3,7,8,9,10] (aab 2)<|aag 11 (aah [] [] [0] (ar 2 (i64.wrap (t.i+1)) hM) ?_);rintro _ T21 adq;refine aaf<|SO 7 [.o 0]<|aam [] [0] (ar 3 0 adq) ?_;rintro _ Z2 ado;refine SO 8 [.o 0]<|aam [] [0] (ar 5 1024 ado) ?_;rintro _ T25 adn;refine ae 2 [] λ _=>?_;have e:(dJ t M)=(((M.set 2 (i64.wrap (t.i+1))).set 3 0).set 5 1024):=by
     first|(simp only[dJ,fI,if_neg h1,if_neg h6,if_pos XO];try rfl;done)|rfl
    exact aav [] [0] [0] (v:=.tuple #[]) ⟨T25,rfl,by rw[e];exact adn.weak (by omega)⟩
   ·refine OU 6<|aam [0] [0] (fp t 6 0 tb (k+5) hM hS.up ) ?_;rintro _ T27 YQ;refine SO 7 [.o 0]<|aam [] [0] (ar 5 0 YQ) ?_;rintro _ T29 akb;refine ae 1 [] λ _=>?_;have e:(dJ t M)=((bd t 6 0 M).set 5 0):=by
     first|(simp only[dJ,fI,if_neg h1,if_neg h6,if_neg XO];try rfl;done)|rfl
    exact aav [] [0] [0] (v:=.tuple #[]) ⟨T29,rfl,by rw[e];exact akb.weak (by omega)⟩
theorem HX(i j:Int) {n r:Int}{q1 q2:Nat}(h1q:(q1,.lit [vI n] 3 (0,0))∈F)(h2q:(q2,.lit [vI r] 3 (0,0))∈F):aen 240 #[vI i,vI j,vP q1 0,vP q2 0] F (.tuple #[vI ((dp i j n r).1),vI ((dp i j n r).2.1),vI ((dp i j n r).2.2)]):=by
 refine rI Tryz.func240 (mc h1q (mc h2q mn)) [] []<|SO 18 [.ro 0]<|aaq (i64.wrap (j+1)<n) 9 (λ h1=>?_) λ h1=>?_
 ·refine SO 12 [.ro 1]<|QW (.tuple #[vI r,vI i,vI (i64.wrap (j+1))]) [] ⟨?_,rfl⟩;simp only[dp,if_pos h1]
 ·refine SO 10 [.ro 0]<|aaq (i64.wrap (i+2)<n) 18 (λ h2=>?_) λ h2=>?_
  ·refine SO 13 [.ro 1]<|QW (.tuple #[vI r,vI (i64.wrap (i+1)),vI (i64.wrap (i+2))]) [] ⟨?_,rfl⟩;simp only[dp,if_neg h1,if_pos h2]
  ·refine SO 13 [.ro 1]<|QW (.tuple #[vI (i64.wrap (r+1)),vI 0,vI 1]) [] ⟨?_,rfl⟩;simp only[dp,if_neg h1,if_neg h2]
theorem wj (hM:MemH mb M (k+14) T) (hS:SetIn F t.S) :aeo 175 #[vP tb 0] (ap [(tb,.lit (Stp.l t mb) 281 (0,0))] [T]) F (λ u H'=>∃x,H'=ap [(tb,.lit (Stp.l t mb) 281 (0,0))] [x]/\(MemH mb (bA t M) k x)):=by
 have hp:=hS.pl;have hn:=hS.nb;have hr:=hS.room;refine QS Tryz.func175 (mc hS.blk mn)<|OU 1<|aap [13,14] []<|ag [] [0,6,1,7,2,8,3,9,4,5] (aab 2)<|aae [] 10 (λ X_=>(aD 4 hM (aY 0)))<|lM (σ:=Nat×Nat) (λ ⟨n1,n2⟩=>⟨[(0,vP tb 0),(2,vP (n1+0) 0),(3,vP (n2+0) 0)],[((n2+0),.lit [vI (M.get 4)] 3 (0,0)),((n1+0),.lit [vI (t.S.nb:Int)] 3 (0,0)),(tb,.lit (Stp.l t mb) 281 (0,0))],[T],True,0⟩) ?_ ?_
 ·rintro⟨n1,n2⟩;refine OU 3<|aap [] []<|ag [] [0,1,2] [.o 1]<|RD.em ((t.S.nb:Int)<2) 20 (λ h3=>?_) λ h3=>?_
  ·refine aem [3,4,5,6,7,8,9,10]<|Q2 5<|aam [2] [0] (fp t 5 0 tb (k+11) hM hS.up ) ?_;rintro _ T4 Ys;refine SO 8 [.o 0]<|aam [] [0] (ar 5 1024 Ys) ?_;rintro _ T6 ZS;refine ae 2 [] λ _=>?_;have e:(bA t M)=((bd t 5 0 M).set 5 1024):=by
    first|(simp only[bA,if_pos h3];try rfl;done)|rfl
   exact aav [] [0] [0] (v:=.tuple #[]) ⟨T6,rfl,by rw[e];exact ZS.weak (by omega)⟩
  ·refine ag [] [3,4,5,6,7,8,9,10] [.o 0,.o 2]<|Q2 1<|aaq (M.get 4>=t.S.rounds) 28 (λ h8=>?_) λ h8=>?_
   ·refine OU 4<|aam [2] [0] (fp t 5 0 tb (k+11) hM hS.up ) ?_;rintro _ T9 W4;refine SO 8 [.o 0]<|aam [] [0] (ar 5 1024 W4) ?_;rintro _ UQ Ve;refine ae 2 [] λ _=>?_;have e:(bA t M)=((bd t 5 0 M).set 5 1024):=by
     first|(simp only[bA,if_neg h3,if_pos h8];try rfl;done)|rfl
    exact aav [] [0] [0] (v:=.tuple #[]) ⟨UQ,rfl,by rw[e];exact Ve.weak (by omega)⟩
   ·refine OU 6<|aam [2] [0] (Bo t tb (k+4) hM hS.up ) ?_;rintro _ WC Vt;refine OU 9<|aap [14] [0,2]<|ag [0,2] [0,1,5,2,6,3,7,4,8] (aab 2)<|aae [0,2] 9 (λ X_=>(HX t.i t.j (n:=(t.S.nb:Int)) (r:=M.get 4) (q1:=n1+0) (q2:=n2+0) (fD 2) (fD 1)))<|ag [0,2] [10,11,12,13] []<|SV 14 [0,2] [.o 1]<|ag [0,2] [15,16] []<|Q2 2<|aap [5] []<|ag [] [0,4,1,2,3] [.o 1,.o 0]<|aag 5 (aah [] [] [0] (ar 4 ((dp t.i t.j (t.S.nb:Int) (M.get 4)).1) Vt) ?_);rintro _ VN VK;refine aaf<|SO 8 [.o 0]<|aam [] [0] (ar 2 ((dp t.i t.j (t.S.nb:Int) (M.get 4)).2.1) VK) ?_;rintro _ W6 adr;refine SO 8 [.o 0]<|aam [] [0] (ar 3 ((dp t.i t.j (t.S.nb:Int) (M.get 4)).2.2) adr) ?_;rintro _ T19 YR;refine ae 1 [] λ _=>?_;have e:(bA t M)=((((dE t M).set 4 ((dp t.i t.j (t.S.nb:Int) (M.get 4)).1)).set 2 ((dp t.i t.j (t.S.nb:Int) (M.get 4)).2.1)).set 3 ((dp t.i t.j (t.S.nb:Int) (M.get 4)).2.2)):=by
     first|(simp only[bA,if_neg h3,if_neg h8];try rfl;done)|rfl
    exact aav [] [0] [0] (v:=.tuple #[]) ⟨T19,rfl,by rw[e];exact YR.weak (by omega)⟩
 ·intro abN;refine dg 11 12 ?_ ?_
  ·refine aai [] [] λ n22=>aag 12 (aai [] [] λ n23=>?_);refine SV 13 [] [.o 1]<|SV 14 [] [.o 0]<|abN ⟨n22,n23⟩ [0,1,2] [0]
  ·refine aai [] [] λ n24=>aag 11 (aai [] [] λ Z5=>?_);refine SV 13 [] [.o 0]<|SV 14 [] [.o 1]<|abN ⟨Z5,n24⟩ [1,0,2] [0]
end
end Go.Proofs.YtogafelgppjklaaGreatDoor
