import Derived.Test.YtjokannbjmndfaaGreatDoorZ15
import Derived.Test.YtjokannbjmndfaaGreatDoorZ10
set_option linter.all false
set_option maxHeartbeats 4000000
set_option maxRecDepth 100000
namespace Go.Proofs.YtjokannbjmndfaaGreatDoor
open IntKind
open Go.RowKit
variable {F T:HL} {M:MemS} {mb:Nat} (t:Stp) (tb k:Nat)
def tD(t:Stp)(M:MemS):Con×Bool:=cj (t.S.body t.i.toNat).sh ⟨(au t.S M t.i).px,(au t.S M t.i).py⟩ (t.S.body t.j.toNat).sh ⟨(au t.S M t.j).px,(au t.S M t.j).py⟩
def ya(t:Stp)(M:MemS):Mot×Mot:=cm (au t.S M t.i) (au t.S M t.j) (tD t M).1 t.S.rest
def fD(t:Stp)(M:MemS):MemS:=((cX t t.j (ya t M).2 (cX t t.i (ya t M).1 M)).set (ag t.S t.i+6) (aV (t.j+1))).set (ag t.S t.j+6) (aV (t.i+1))
def dp(t:Stp)(M:MemS):MemS:=if 0<=t.i/\t.i<t.S.nb then if 0<=t.j/\t.j<t.S.nb then if (tD t M).2=true then fD t M else M else M else M
def tE(t:Stp)(M:MemS):Int:=mK (t.S.body t.i.toNat).sh ⟨(au t.S M t.i).px,(au t.S M t.i).py⟩ ⟨(au t.S M t.i).vx,(au t.S M t.i).vy⟩ (t.S.body t.j.toNat).sh ⟨(au t.S M t.j).px,(au t.S M t.j).py⟩ ⟨0,0⟩
def ew(t:Stp)(M:MemS):MemS:=if t.i=t.j then M else if movP t.S t.i then (if tE t M<M.get 5 then M.set 5 (tE t M) else M) else M
def fE(t:Stp)(M:MemS):MemS:=if aV (t.i+1)<t.S.nb then ((M.set 2 (aV (t.i+1))).set 3 0).set 5 1024 else (aZ t 6 0 M).set 5 0
def dC(t:Stp)(M:MemS):MemS:=if 0<=t.j/\t.j<t.S.nb then (ew t M).set 3 (aV (t.j+1)) else fE t (if movP t.S t.i then cI t M else M)
def da(i j n r:Int):Int×Int×Int:=if aV (j+1)<n then (r,i,aV (j+1)) else if aV (i+2)<n then (r,aV (i+1),aV (i+2)) else (aV (r+1),0,1)
def bD(t:Stp)(M:MemS):MemS:=if (t.S.nb:Int)<2 then (aZ t 5 0 M).set 5 1024 else if M.get 4>=t.S.rounds then (aZ t 5 0 M).set 5 1024 else (((dp t M).set 4 (da t.i t.j t.S.nb (M.get 4)).1).set 2 (da t.i t.j t.S.nb (M.get 4)).2.1).set 3 (da t.i t.j t.S.nb (M.get 4)).2.2
theorem Bl (hM:MemH mb M (k+10) T) (hS:SetIn F t.S) :af1 187 #[vP tb 0] (ap [(tb,.lit (Stp.l t mb) 253 (0,0))] [T]) F (λ u H'=>∃x,H'=ap [(tb,.lit (Stp.l t mb) 253 (0,0))] [x]/\(MemH mb (dp t M) k x)):=by
 have hp:=hS.pl;have hn:=hS.nb;have hr:=hS.room;refine QF Tryz.func187 (mc hS.blk mn)<|Sr 8 [.o 0]<|aah (qP (t:=t) t.i (tb:=tb) (mb:=mb) (ay 0))<|OG 2<|aam (0<=t.i/\t.i<t.S.nb) 13 (λ h1=>?_) λ h1=>?_
 ·refine Sr 5 [.o 0]<|aah (qP (t:=t) t.j (tb:=tb) (mb:=mb) (ay 0))<|OG 4<|aam (0<=t.j/\t.j<t.S.nb) 21 (λ h2=>?_) λ h2=>?_
  ·refine OG 4<|aak [14,15] []<|af [] [0,1,6,7,2,8,3,9,4,10] (aab 2)<|aac [] 5 (λ X_=>(gm (t:=t) (tb:=tb) (eF 0) hS.up.up hM (aL 0) h1))<|aac [] 11 (λ X_=>(gm (t:=t) (tb:=tb) (eF 0) hS.up.up hM (aL 0) h2))<|lq (σ:=Nat×Nat) (λ ⟨n3,n4⟩=>⟨[(0,vP tb 0),(2,vP (n3+0) 0),(3,vP (n4+0) 0)],[((n4+0),.lit [vI ((au t.S M t.j).px),vI ((au t.S M t.j).py),vI ((au t.S M t.j).vx),vI ((au t.S M t.j).vy),vI ((au t.S M t.j).inv)] 74 (0,0)),((n3+0),.lit [vI ((au t.S M t.i).px),vI ((au t.S M t.i).py),vI ((au t.S M t.i).vx),vI ((au t.S M t.i).vy),vI ((au t.S M t.i).inv)] 74 (0,0)),(tb,.lit (Stp.l t mb) 253 (0,0))],[T],True,0⟩) ?_ ?_
   ·rintro⟨n3,n4⟩;refine OG 2<|aak [33] [0,1,2]<|aH [0,1,2] [0,5,12,14,19,26,1,6,13,15,20,27,2,7,16,21,3,8,17,22,4,18,9,23,10,24,11,25] [.o 1,.o 1,.o 0,.o 0,.o 2,.o 2,.o 2,.o 2,.ix ((t.i).toNat),.ix ((t.j).toNat),.rorow 0 (t.S.bo+((t.i).toNat)) 0,.rorow 0 (t.S.bo+((t.i).toNat)) 1,.rorow 0 (t.S.bo+((t.j).toNat)) 0,.rorow 0 (t.S.bo+((t.j).toNat)) 1] [((t.S.bo*9+((t.j).toNat)*9)+1)=(t.S.bo+((t.j).toNat))*9+1/\(t.S.bo+((t.j).toNat))<t.S.bR,(t.S.bo*9+((t.j).toNat)*9)=(t.S.bo+((t.j).toNat))*9+0/\(t.S.bo+((t.j).toNat))<t.S.bR,((t.S.bo*9+((t.i).toNat)*9)+1)=(t.S.bo+((t.i).toNat))*9+1/\(t.S.bo+((t.i).toNat))<t.S.bR,(t.S.bo*9+((t.i).toNat)*9)=(t.S.bo+((t.i).toNat))*9+0/\(t.S.bo+((t.i).toNat))<t.S.bR,t.j=(((t.j).toNat:Nat):Int)/\(t.j).toNat<t.S.nb,t.i=(((t.i).toNat:Nat):Int)/\(t.i).toNat<t.S.nb]<|aac [0,1,2] 28 (λ X_=>(qi (t.S.bods.getD (t.S.bo+((t.i).toNat)) dB).sh (⟨(au t.S M t.i).px,(au t.S M t.i).py⟩:V2) (t.S.bods.getD (t.S.bo+((t.j).toNat)) dB).sh (⟨(au t.S M t.j).px,(au t.S M t.j).py⟩:V2) ((hS.shp ((t.i).toNat) (by omega)).up.up) ((hS.shp ((t.j).toNat) (by omega)).up.up)))<|af [0,1,2] [29,30,31] []<|aae 32 (aag [] [] λ n6=>?_);refine Sx 33 [1,2,3] (aab 3)<|af [1,2,3] [34] []<|QQ 8<|rv ((cj (t.S.bods.getD (t.S.bo+((t.i).toNat)) dB).sh (⟨(au t.S M t.i).px,(au t.S M t.i).py⟩:V2) (t.S.bods.getD (t.S.bo+((t.j).toNat)) dB).sh (⟨(au t.S M t.j).px,(au t.S M t.j).py⟩:V2)).2) 67 (λ h7=>?_) λ h7=>?_
    ·refine OG 4<|aak [12,13] [0,3]<|af [0,3] [0,1,2,3,4,5,6,7] (ow 2 5++ow 1 5++(aab 3++[.o 3]))<|aac [0,3] 8 (λ X_=>(xZ (au t.S M t.i) (au t.S M t.j) (cj (t.S.bods.getD (t.S.bo+((t.i).toNat)) dB).sh (⟨(au t.S M t.i).px,(au t.S M t.i).py⟩:V2) (t.S.bods.getD (t.S.bo+((t.j).toNat)) dB).sh (⟨(au t.S M t.j).px,(au t.S M t.j).py⟩:V2)).1 t.S.rest))<|af [0,3] [9,10,11] []<|Sx 12 [0,3] (ow 2 5)<|Sx 13 [0,3] (ow 1 5)<|QQ 2<|aak [6] []<|af [] [0,1,5,2,3,4] (ow 2 5++[.o 3])<|aae 6 (aaf [] [3] [0] (mJ t t.i ((cm (au t.S M t.i) (au t.S M t.j) (cj (t.S.bods.getD (t.S.bo+((t.i).toNat)) dB).sh (⟨(au t.S M t.i).px,(au t.S M t.i).py⟩:V2) (t.S.bods.getD (t.S.bo+((t.j).toNat)) dB).sh (⟨(au t.S M t.j).px,(au t.S M t.j).py⟩:V2)).1 t.S.rest).1) tb (k+6) hM hS.up ) ?_);rintro _ T8 XW;refine QQ 2<|aak [6] []<|af [] [0,1,5,2,3,4] (ow 2 5++[.o 0])<|aae 6 (aaf [] [0] [0] (mJ t t.j ((cm (au t.S M t.i) (au t.S M t.j) (cj (t.S.bods.getD (t.S.bo+((t.i).toNat)) dB).sh (⟨(au t.S M t.i).px,(au t.S M t.i).py⟩:V2) (t.S.bods.getD (t.S.bo+((t.j).toNat)) dB).sh (⟨(au t.S M t.j).px,(au t.S M t.j).py⟩:V2)).1 t.S.rest).2) tb (k+2) XW hS.up ) ?_);rintro _ VI VD;refine QQ 2<|aak [21] []<|af [] [0,4,8,14,1,5,9,15,2,6,10,16,3,7,11,17,18,19,20] (ow 0 19)<|aac [] 12 (λ X_=>(dh t.i hS.toSetN)) ?_;have aiG:=dg hS.toSetN t.i;refine aH [] [13] [.nw] [aX ((ag t.S t.i)+6)]<|aae 21 (aaf [] [] [0] (al ((ag t.S t.i)+6) (i64.wrap (t.j+1)) VD) ?_);rintro _ U2 UN;refine QQ 1<|aak [21] []<|af [] [0,4,8,14,1,5,9,15,2,6,10,16,3,7,11,17,18,19,20] (ow 0 19)<|aac [] 12 (λ X_=>(dh t.j hS.toSetN)) ?_;have aou:=dg hS.toSetN t.j;refine aH [] [13] [.nw] [aX ((ag t.S t.j)+6)]<|aae 21 (aaf [] [] [0] (al ((ag t.S t.j)+6) (i64.wrap (t.i+1)) UN) ?_);rintro _ Zx Xq;refine aad<|QI [] [0] [0] (.tuple #[]) (ap [(tb,.lit (Stp.l t mb) 253 (0,0))] [Zx]) ⟨Zx,rfl,?_⟩;have e:dp t M=(((cX t t.j ((cm (au t.S M t.i) (au t.S M t.j) (cj (t.S.bods.getD (t.S.bo+((t.i).toNat)) dB).sh (⟨(au t.S M t.i).px,(au t.S M t.i).py⟩:V2) (t.S.bods.getD (t.S.bo+((t.j).toNat)) dB).sh (⟨(au t.S M t.j).px,(au t.S M t.j).py⟩:V2)).1 t.S.rest).2) (cX t t.i ((cm (au t.S M t.i) (au t.S M t.j) (cj (t.S.bods.getD (t.S.bo+((t.i).toNat)) dB).sh (⟨(au t.S M t.i).px,(au t.S M t.i).py⟩:V2) (t.S.bods.getD (t.S.bo+((t.j).toNat)) dB).sh (⟨(au t.S M t.j).px,(au t.S M t.j).py⟩:V2)).1 t.S.rest).1) M)).set ((ag t.S t.i)+6) (i64.wrap (t.j+1))).set ((ag t.S t.j)+6) (i64.wrap (t.i+1))):=by
      unfold dp;rw[if_pos (show 0<=t.i/\t.i<t.S.nb from h1),if_pos (show 0<=t.j/\t.j<t.S.nb from h2),if_pos (show (tD t M).2=true from h7)]
      first|done|rfl
     rw[e];exact Xq.weak (by omega)
    ·refine OG 1<|QI [] [3] [0] (.tuple #[]) (ap [(tb,.lit (Stp.l t mb) 253 (0,0))] [T]) ⟨T,rfl,?_⟩;have e:dp t M=M:=by
      unfold dp;rw[if_pos (show 0<=t.i/\t.i<t.S.nb from h1),if_pos (show 0<=t.j/\t.j<t.S.nb from h2),if_neg (show ¬ ((tD t M).2=true) from h7)]
      first|done|rfl
     rw[e];exact hM.weak (by omega)
   ·intro aaM;refine fq 12 13 ?_ ?_
    ·refine aag [] [] λ n19=>aae 13 (aag [] [] λ XN=>?_);refine Sx 14 [] (ow 1 5)<|Sx 15 [] (ow 0 5)<|aaM ⟨n19,XN⟩ [0,1,2] [0]
    ·refine aag [] [] λ Uc=>aae 12 (aag [] [] λ n22=>?_);refine Sx 14 [] (ow 0 5)<|Sx 15 [] (ow 1 5)<|aaM ⟨n22,Uc⟩ [1,0,2] [0]
  ·refine OG 1<|QI [] [0] [0] (.tuple #[]) (ap [(tb,.lit (Stp.l t mb) 253 (0,0))] [T]) ⟨T,rfl,?_⟩;have e:dp t M=M:=by
    unfold dp;rw[if_pos (show 0<=t.i/\t.i<t.S.nb from h1),if_neg (show ¬ (0<=t.j/\t.j<t.S.nb) from h2)]
    first|done|rfl
   rw[e];exact hM.weak (by omega)
 ·refine OG 11<|QI [] [0] [0] (.tuple #[]) (ap [(tb,.lit (Stp.l t mb) 253 (0,0))] [T]) ⟨T,rfl,?_⟩;have e:dp t M=M:=by
   unfold dp;rw[if_neg (show ¬ (0<=t.i/\t.i<t.S.nb) from h1)]
   first|done|rfl
  rw[e];exact hM.weak (by omega)
theorem EJ (hM:MemH mb M (k+1) T) (hS:SetIn F t.S) (hj:0<=t.j/\t.j<t.S.nb):af1 190 #[vP tb 0] (ap [(tb,.lit (Stp.l t mb) 253 (0,0))] [T]) F (λ u H'=>∃x,H'=ap [(tb,.lit (Stp.l t mb) 253 (0,0))] [x]/\(MemH mb (ew t M) k x)):=by
 have hp:=hS.pl;have hn:=hS.nb;have hr:=hS.room;refine QF Tryz.func190 (mc hS.blk mn)<|OG 2<|aak [] []<|af [] [0,4,1,5,2,6,3,7,8,9] (aab 2)<|RD.em (t.i=t.j) 14 (λ h1=>?_) λ h1=>?_
 ·refine afZ [10,11,12,13,14,15,16,17]<|QQ 2<|QI [] [0] [0] (.tuple #[]) (ap [(tb,.lit (Stp.l t mb) 253 (0,0))] [T]) ⟨T,rfl,?_⟩;have e:ew t M=M:=by
   unfold ew;rw[if_pos (show t.i=t.j from h1)]
   first|done|rfl
  rw[e];exact hM.weak (by omega)
 ·refine af [] [10,11,12,13,14] [.o 0]<|aac [] 15 (λ X_=>(lz (t:=t) t.i (tb:=tb) (mb:=mb) (eF 0) hS.up.up))<|afZ [16,17]<|QQ 1<|aam (movP t.S t.i) 22 (λ h2=>?_) λ h2=>?_
  ·have:=movP.has h2;refine OG 4<|aak [14,15] []<|af [] [0,1,6,7,2,8,3,9,4,10] (aab 2)<|aac [] 5 (λ X_=>(gm (t:=t) (i:=t.i) (tb:=tb) (eF 0) hS.up.up hM (aL 0) (movP.has h2)))<|aac [] 11 (λ X_=>(gm (t:=t) (tb:=tb) (eF 0) hS.up.up hM (aL 0) hj))<|lq (σ:=Nat×Nat) (λ ⟨n3,n4⟩=>⟨[(0,vP tb 0),(2,vP (n3+0) 0),(3,vP (n4+0) 0)],[((n4+0),.lit [vI ((au t.S M t.j).px),vI ((au t.S M t.j).py),vI ((au t.S M t.j).vx),vI ((au t.S M t.j).vy),vI ((au t.S M t.j).inv)] 74 (0,0)),((n3+0),.lit [vI ((au t.S M t.i).px),vI ((au t.S M t.i).py),vI ((au t.S M t.i).vx),vI ((au t.S M t.i).vy),vI ((au t.S M t.i).inv)] 74 (0,0)),(tb,.lit (Stp.l t mb) 253 (0,0))],[T],True,0⟩) ?_ ?_
   ·rintro⟨n3,n4⟩;refine OG 2<|aak [] []<|aH [] [0,5,12,14,16,21,28,30,1,6,13,15,17,22,29,2,7,18,23,3,8,19,24,4,20,9,25,10,26,11,27] [.o 1,.o 1,.o 1,.o 1,.o 0,.o 0,.o 2,.o 2,.o 2,.o 2,.ix ((t.i).toNat),.ix ((t.j).toNat),.rorow 0 (t.S.bo+((t.i).toNat)) 0,.rorow 0 (t.S.bo+((t.i).toNat)) 1,.rorow 0 (t.S.bo+((t.j).toNat)) 0,.rorow 0 (t.S.bo+((t.j).toNat)) 1] [((t.S.bo*9+((t.j).toNat)*9)+1)=(t.S.bo+((t.j).toNat))*9+1/\(t.S.bo+((t.j).toNat))<t.S.bR,(t.S.bo*9+((t.j).toNat)*9)=(t.S.bo+((t.j).toNat))*9+0/\(t.S.bo+((t.j).toNat))<t.S.bR,((t.S.bo*9+((t.i).toNat)*9)+1)=(t.S.bo+((t.i).toNat))*9+1/\(t.S.bo+((t.i).toNat))<t.S.bR,(t.S.bo*9+((t.i).toNat)*9)=(t.S.bo+((t.i).toNat))*9+0/\(t.S.bo+((t.i).toNat))<t.S.bR,t.j=(((t.j).toNat:Nat):Int)/\(t.j).toNat<t.S.nb,t.i=(((t.i).toNat:Nat):Int)/\(t.i).toNat<t.S.nb]<|aac [] 31 (λ X_=>(vZ (t.S.bods.getD (t.S.bo+((t.i).toNat)) dB).sh (⟨(au t.S M t.i).px,(au t.S M t.i).py⟩:V2) (⟨(au t.S M t.i).vx,(au t.S M t.i).vy⟩:V2) (t.S.bods.getD (t.S.bo+((t.j).toNat)) dB).sh (⟨(au t.S M t.j).px,(au t.S M t.j).py⟩:V2) (⟨0,0⟩:V2) ((hS.shp ((t.i).toNat) (by omega)).up.up) ((hS.shp ((t.j).toNat) (by omega)).up.up)))<|afZ [32]<|aad<|Sr 8 [.o 2]<|aah (aA 5 hM (ar 0))<|OG 3<|aal (mK (t.S.bods.getD (t.S.bo+((t.i).toNat)) dB).sh (⟨(au t.S M t.i).px,(au t.S M t.i).py⟩:V2) (⟨(au t.S M t.i).vx,(au t.S M t.i).vy⟩:V2) (t.S.bods.getD (t.S.bo+((t.j).toNat)) dB).sh (⟨(au t.S M t.j).px,(au t.S M t.j).py⟩:V2) (⟨0,0⟩:V2)<M.get 5) 73 (λ h5=>?_) λ h5=>?_
    ·refine Sr 7 [.o 2]<|aai [] [0] (al 5 (mK (t.S.bods.getD (t.S.bo+((t.i).toNat)) dB).sh (⟨(au t.S M t.i).px,(au t.S M t.i).py⟩:V2) (⟨(au t.S M t.i).vx,(au t.S M t.i).vy⟩:V2) (t.S.bods.getD (t.S.bo+((t.j).toNat)) dB).sh (⟨(au t.S M t.j).px,(au t.S M t.j).py⟩:V2) (⟨0,0⟩:V2)) hM) ?_;rintro _ T6 YY;refine OG 1<|QI [] [2] [0] (.tuple #[]) (ap [(tb,.lit (Stp.l t mb) 253 (0,0))] [T6]) ⟨T6,rfl,?_⟩;have e:ew t M=(M.set 5 (mK (t.S.bods.getD (t.S.bo+((t.i).toNat)) dB).sh (⟨(au t.S M t.i).px,(au t.S M t.i).py⟩:V2) (⟨(au t.S M t.i).vx,(au t.S M t.i).vy⟩:V2) (t.S.bods.getD (t.S.bo+((t.j).toNat)) dB).sh (⟨(au t.S M t.j).px,(au t.S M t.j).py⟩:V2) (⟨0,0⟩:V2))):=by
      unfold ew;rw[if_neg (show ¬ (t.i=t.j) from h1),if_pos (show movP t.S t.i from h2),if_pos (show tE t M<M.get 5 from h5)]
      first|done|rfl
     rw[e];exact YY.weak (by omega)
    ·refine OG 2<|QI [] [2] [0] (.tuple #[]) (ap [(tb,.lit (Stp.l t mb) 253 (0,0))] [T]) ⟨T,rfl,?_⟩;have e:ew t M=M:=by
      unfold ew;rw[if_neg (show ¬ (t.i=t.j) from h1),if_pos (show movP t.S t.i from h2),if_neg (show ¬ (tE t M<M.get 5) from h5)]
      first|done|rfl
     rw[e];exact hM.weak (by omega)
   ·intro Yf;refine fq 12 13 ?_ ?_
    ·refine aag [] [] λ n9=>aae 13 (aag [] [] λ n10=>?_);refine Sx 14 [] (ow 1 5)<|Sx 15 [] (ow 0 5)<|Yf ⟨n9,n10⟩ [0,1,2] [0]
    ·refine aag [] [] λ n11=>aae 12 (aag [] [] λ n12=>?_);refine Sx 14 [] (ow 0 5)<|Sx 15 [] (ow 1 5)<|Yf ⟨n12,n11⟩ [1,0,2] [0]
  ·refine OG 1<|QI [] [0] [0] (.tuple #[]) (ap [(tb,.lit (Stp.l t mb) 253 (0,0))] [T]) ⟨T,rfl,?_⟩;have e:ew t M=M:=by
    unfold ew;rw[if_neg (show ¬ (t.i=t.j) from h1),if_neg (show ¬ (movP t.S t.i) from h2)]
    first|done|rfl
   rw[e];exact hM.weak (by omega)
theorem EK (hM:MemH mb M (k+8) T) (hS:SetIn F t.S) :af1 137 #[vP tb 0] (ap [(tb,.lit (Stp.l t mb) 253 (0,0))] [T]) F (λ u H'=>∃x,H'=ap [(tb,.lit (Stp.l t mb) 253 (0,0))] [x]/\(MemH mb (dC t M) k x)):=by
 have hp:=hS.pl;have hn:=hS.nb;have hr:=hS.room;refine QF Tryz.func137 (mc hS.blk mn)<|Sr 8 [.o 0]<|aah (qP (t:=t) t.j (tb:=tb) (mb:=mb) (ay 0))<|OG 2<|aal (0<=t.j/\t.j<t.S.nb) 7 (λ h1=>?_) λ h1=>?_
 ·refine OG 4<|aai [0] [0] (EJ t tb (k+7) hM hS.up (by assumption)) ?_;rintro _ T2 Wm;refine OG 3<|aak [11] []<|af [] [0,4,1,5,2,6,3,7,8,9,10] (aab 2)<|aae 11 (aaf [] [] [0] (al 3 (i64.wrap (t.j+1)) Wm) ?_);rintro _ T4 XE;refine QQ 1<|QI [] [0] [0] (.tuple #[]) (ap [(tb,.lit (Stp.l t mb) 253 (0,0))] [T4]) ⟨T4,rfl,?_⟩;have e:(dC t M)=((ew t M).set 3 (i64.wrap (t.j+1))):=by
   first|(simp only[dC,fE,if_pos h1];try rfl;done)|rfl
  rw[e];exact XE.weak (by omega)
 ·refine Sr 11 [.o 0]<|aah (lz (t:=t) t.i (tb:=tb) (mb:=mb) (ay 0) hS.up)<|OG 2<|aal (movP t.S t.i) 27 (λ h6=>?_) λ h6=>?_
  ·have:=movP.has h6;refine OG 3<|aai [0] [0] (Bc t tb (k+4) hM hS.up (by assumption)) ?_;rintro _ T7 Wt;refine OG 4<|aak [] []<|af [] [0,5,1,6,2,7,3,8,4,9,10,11] (aab 2)<|QQ 1<|aal (i64.wrap (t.i+1)<(t.S.nb:Int)) 41 (λ h9=>?_) λ h9=>?_
   ·refine OG 2<|aak [11] []<|af [] [0,4,1,5,2,6,3,7,8,9,10] (aab 2)<|aae 11 (aaf [] [] [0] (al 2 (i64.wrap (t.i+1)) Wt) ?_);rintro _ VI VD;refine aad<|Sr 7 [.o 0]<|aai [] [0] (al 3 0 VD) ?_;rintro _ T12 Y2;refine Sr 8 [.o 0]<|aai [] [0] (al 5 1024 Y2) ?_;rintro _ T14 Y1;refine OG 2<|QI [] [0] [0] (.tuple #[]) (ap [(tb,.lit (Stp.l t mb) 253 (0,0))] [T14]) ⟨T14,rfl,?_⟩;have e:(dC t M)=((((cI t M).set 2 (i64.wrap (t.i+1))).set 3 0).set 5 1024):=by
     first|(simp only[dC,fE,if_neg h1,if_pos h6,if_pos h9];try rfl;done)|rfl
    rw[e];exact Y1.weak (by omega)
   ·refine OG 6<|aai [0] [0] (fi t 6 0 tb (k+1) Wt hS.up ) ?_;rintro _ Zx Xq;refine Sr 7 [.o 0]<|aai [] [0] (al 5 0 Xq) ?_;rintro _ T18 Y0;refine OG 1<|QI [] [0] [0] (.tuple #[]) (ap [(tb,.lit (Stp.l t mb) 253 (0,0))] [T18]) ⟨T18,rfl,?_⟩;have e:(dC t M)=((aZ t 6 0 (cI t M)).set 5 0):=by
     first|(simp only[dC,fE,if_neg h1,if_pos h6,if_neg h9];try rfl;done)|rfl
    rw[e];exact Y0.weak (by omega)
  ·refine OG 5<|aak [] []<|af [] [0,5,1,6,2,7,3,8,4,9,10,11] (aab 2)<|QQ 1<|aal (i64.wrap (t.i+1)<(t.S.nb:Int)) 41 (λ h20=>?_) λ h20=>?_
   ·refine OG 2<|aak [11] []<|af [] [0,4,1,5,2,6,3,7,8,9,10] (aab 2)<|aae 11 (aaf [] [] [0] (al 2 (i64.wrap (t.i+1)) hM) ?_);rintro _ T21 acv;refine aad<|Sr 7 [.o 0]<|aai [] [0] (al 3 0 acv) ?_;rintro _ X1 acs;refine Sr 8 [.o 0]<|aai [] [0] (al 5 1024 acs) ?_;rintro _ T25 Xp;refine OG 2<|QI [] [0] [0] (.tuple #[]) (ap [(tb,.lit (Stp.l t mb) 253 (0,0))] [T25]) ⟨T25,rfl,?_⟩;have e:(dC t M)=(((M.set 2 (i64.wrap (t.i+1))).set 3 0).set 5 1024):=by
     first|(simp only[dC,fE,if_neg h1,if_neg h6,if_pos h20];try rfl;done)|rfl
    rw[e];exact Xp.weak (by omega)
   ·refine OG 6<|aai [0] [0] (fi t 6 0 tb (k+5) hM hS.up ) ?_;rintro _ Zh WN;refine Sr 7 [.o 0]<|aai [] [0] (al 5 0 WN) ?_;rintro _ T29 acr;refine OG 1<|QI [] [0] [0] (.tuple #[]) (ap [(tb,.lit (Stp.l t mb) 253 (0,0))] [T29]) ⟨T29,rfl,?_⟩;have e:(dC t M)=((aZ t 6 0 M).set 5 0):=by
     first|(simp only[dC,fE,if_neg h1,if_neg h6,if_neg h20];try rfl;done)|rfl
    rw[e];exact acr.weak (by omega)
theorem HN(i j:Int) {n r:Int}{q1 q2:Nat}(h1q:(q1,.lit [vI n] 3 (0,0))∈F)(h2q:(q2,.lit [vI r] 3 (0,0))∈F):af0 188 #[vI i,vI j,vP q1 0,vP q2 0] F (.tuple #[vI ((da i j n r).1),vI ((da i j n r).2.1),vI ((da i j n r).2.2)]):=by
 refine rx Tryz.func188 (mc h1q (mc h2q mn)) [] []<|Sr 18 [.ro 0]<|aal (i64.wrap (j+1)<n) 9 (λ h1=>?_) λ h1=>?_
 ·refine Sr 12 [.ro 1]<|QJ (.tuple #[vI r,vI i,vI (i64.wrap (j+1))]) [] ⟨?_,rfl⟩;simp only[da,if_pos h1]
 ·refine Sr 10 [.ro 0]<|aal (i64.wrap (i+2)<n) 18 (λ h2=>?_) λ h2=>?_
  ·refine Sr 13 [.ro 1]<|QJ (.tuple #[vI r,vI (i64.wrap (i+1)),vI (i64.wrap (i+2))]) [] ⟨?_,rfl⟩;simp only[da,if_neg h1,if_pos h2]
  ·refine Sr 13 [.ro 1]<|QJ (.tuple #[vI (i64.wrap (r+1)),vI 0,vI 1]) [] ⟨?_,rfl⟩;simp only[da,if_neg h1,if_neg h2]
theorem v6 (hM:MemH mb M (k+14) T) (hS:SetIn F t.S) :af1 136 #[vP tb 0] (ap [(tb,.lit (Stp.l t mb) 253 (0,0))] [T]) F (λ u H'=>∃x,H'=ap [(tb,.lit (Stp.l t mb) 253 (0,0))] [x]/\(MemH mb (bD t M) k x)):=by
 have hp:=hS.pl;have hn:=hS.nb;have hr:=hS.room;refine QF Tryz.func136 (mc hS.blk mn)<|OG 1<|aak [13,14] []<|af [] [0,6,1,7,2,8,3,9,4,5] (aab 2)<|aac [] 10 (λ X_=>(aA 4 hM (aL 0)))<|lq (σ:=Nat×Nat) (λ ⟨n1,n2⟩=>⟨[(0,vP tb 0),(2,vP (n1+0) 0),(3,vP (n2+0) 0)],[((n2+0),.lit [vI (M.get 4)] 3 (0,0)),((n1+0),.lit [vI (t.S.nb:Int)] 3 (0,0)),(tb,.lit (Stp.l t mb) 253 (0,0))],[T],True,0⟩) ?_ ?_
 ·rintro⟨n1,n2⟩;refine OG 3<|aak [] []<|af [] [0,1,2] [.o 1]<|RD.em ((t.S.nb:Int)<2) 20 (λ h3=>?_) λ h3=>?_
  ·refine afZ [3,4,5,6,7,8,9,10]<|QQ 5<|aai [2] [0] (fi t 5 0 tb (k+11) hM hS.up ) ?_;rintro _ T4 XE;refine Sr 8 [.o 0]<|aai [] [0] (al 5 1024 XE) ?_;rintro _ T6 YY;refine OG 2<|QI [] [0] [0] (.tuple #[]) (ap [(tb,.lit (Stp.l t mb) 253 (0,0))] [T6]) ⟨T6,rfl,?_⟩;have e:(bD t M)=((aZ t 5 0 M).set 5 1024):=by
    first|(simp only[bD,if_pos h3];try rfl;done)|rfl
   rw[e];exact YY.weak (by omega)
  ·refine af [] [3,4,5,6,7,8,9,10] [.o 0,.o 2]<|QQ 1<|aal (M.get 4>=t.S.rounds) 28 (λ h8=>?_) λ h8=>?_
   ·refine OG 4<|aai [2] [0] (fi t 5 0 tb (k+11) hM hS.up ) ?_;rintro _ T9 VE;refine Sr 8 [.o 0]<|aai [] [0] (al 5 1024 VE) ?_;rintro _ Ub Um;refine OG 2<|QI [] [0] [0] (.tuple #[]) (ap [(tb,.lit (Stp.l t mb) 253 (0,0))] [Ub]) ⟨Ub,rfl,?_⟩;have e:(bD t M)=((aZ t 5 0 M).set 5 1024):=by
     first|(simp only[bD,if_neg h3,if_pos h8];try rfl;done)|rfl
    rw[e];exact Um.weak (by omega)
   ·refine OG 6<|aai [2] [0] (Bl t tb (k+4) hM hS.up ) ?_;rintro _ U2 UN;refine OG 9<|aak [14] [0,2]<|af [0,2] [0,1,5,2,6,3,7,4,8] (aab 2)<|aac [0,2] 9 (λ X_=>(HN t.i t.j (n:=(t.S.nb:Int)) (r:=M.get 4) (q1:=n1+0) (q2:=n2+0) (eF 2) (eF 1)))<|af [0,2] [10,11,12,13] []<|Sx 14 [0,2] [.o 1]<|af [0,2] [15,16] []<|QQ 2<|aak [5] []<|af [] [0,4,1,2,3] [.o 1,.o 0]<|aae 5 (aaf [] [] [0] (al 4 ((da t.i t.j (t.S.nb:Int) (M.get 4)).1) UN) ?_);rintro _ Vf Ul;refine aad<|Sr 8 [.o 0]<|aai [] [0] (al 2 ((da t.i t.j (t.S.nb:Int) (M.get 4)).2.1) Ul) ?_;rintro _ V8 Vd;refine Sr 8 [.o 0]<|aai [] [0] (al 3 ((da t.i t.j (t.S.nb:Int) (M.get 4)).2.2) Vd) ?_;rintro _ Wv XX;refine OG 1<|QI [] [0] [0] (.tuple #[]) (ap [(tb,.lit (Stp.l t mb) 253 (0,0))] [Wv]) ⟨Wv,rfl,?_⟩;have e:(bD t M)=((((dp t M).set 4 ((da t.i t.j (t.S.nb:Int) (M.get 4)).1)).set 2 ((da t.i t.j (t.S.nb:Int) (M.get 4)).2.1)).set 3 ((da t.i t.j (t.S.nb:Int) (M.get 4)).2.2)):=by
     first|(simp only[bD,if_neg h3,if_neg h8];try rfl;done)|rfl
    rw[e];exact XX.weak (by omega)
 ·intro aaL;refine fq 11 12 ?_ ?_
  ·refine aag [] [] λ n22=>aae 12 (aag [] [] λ n23=>?_);refine Sx 13 [] [.o 1]<|Sx 14 [] [.o 0]<|aaL ⟨n22,n23⟩ [0,1,2] [0]
  ·refine aag [] [] λ n24=>aae 11 (aag [] [] λ n25=>?_);refine Sx 13 [] [.o 0]<|Sx 14 [] [.o 1]<|aaL ⟨n25,n24⟩ [1,0,2] [0]
end Go.Proofs.YtjokannbjmndfaaGreatDoor
