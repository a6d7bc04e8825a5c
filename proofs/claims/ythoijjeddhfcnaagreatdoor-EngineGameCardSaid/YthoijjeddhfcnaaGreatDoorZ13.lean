import Derived.Test.YthoijjeddhfcnaaGreatDoorZ12
import Derived.Test.YthoijjeddhfcnaaGreatDoorZ07
set_option maxHeartbeats 4000000
set_option maxRecDepth 100000
set_option linter.unusedSimpArgs false
set_option linter.unusedVariables false
namespace Go.Proofs.YthoijjeddhfcnaaGreatDoor
open IntKind
open Go.RowKit
def jO(t:Stp)(M:MemS):Con × Bool:=aG (t.S.body t.i.toNat).sh ⟨(ai t.S M t.i).px,(ai t.S M t.i).py⟩ (t.S.body t.j.toNat).sh ⟨(ai t.S M t.j).px,(ai t.S M t.j).py⟩
def fA(t:Stp)(M:MemS):Mot × Mot:=aJ (ai t.S M t.i) (ai t.S M t.j) (jO t M).1 t.S.rest
def dY(t:Stp)(M:MemS):MemS:=((bG t t.j (fA t M).2 (bG t t.i (fA t M).1 M)).set (ae t.S t.i+6) (aV (t.j+1))).set (ae t.S t.j+6) (aV (t.i+1))
def cq(t:Stp)(M:MemS):MemS:=if 0 <= t.i /\ t.i<t.S.nb then if 0 <= t.j /\ t.j<t.S.nb then if (jO t M).2=true then dY t M else M else M else M
def kq(t:Stp)(M:MemS):Int:=fw (t.S.body t.i.toNat).sh ⟨(ai t.S M t.i).px,(ai t.S M t.i).py⟩ ⟨(ai t.S M t.i).vx,(ai t.S M t.i).vy⟩ (t.S.body t.j.toNat).sh ⟨(ai t.S M t.j).px,(ai t.S M t.j).py⟩ ⟨0,0⟩
def dH(t:Stp)(M:MemS):MemS:=if t.i=t.j then M else if movP t.S t.i then (if kq t M<M.get 5 then M.set 5 (kq t M) else M) else M
def eH(t:Stp)(M:MemS):MemS:=if aV (t.i+1)<t.S.nb then ((M.set 2 (aV (t.i+1))).set 3 0).set 5 1024 else (aQ t 6 0 M).set 5 0
def cY(t:Stp)(M:MemS):MemS:=if 0 <= t.j /\ t.j<t.S.nb then (dH t M).set 3 (aV (t.j+1)) else eH t (if movP t.S t.i then bI t M else M)
def cZ(i j n r:Int):Int × Int × Int:=if aV (j+1)<n then (r,i,aV (j+1)) else if aV (i+2)<n then (r,aV (i+1),aV (i+2)) else (aV (r+1),0,1)
def bj(t:Stp)(M:MemS):MemS:=if (t.S.nb:Int)<2 then (aQ t 5 0 M).set 5 1024 else if M.get 4 >= t.S.rounds then (aQ t 5 0 M).set 5 1024 else (((cq t M).set 4 (cZ t.i t.j t.S.nb (M.get 4)).1).set 2 (cZ t.i t.j t.S.nb (M.get 4)).2.1).set 3 (cZ t.i t.j t.S.nb (M.get 4)).2.2
theorem xL(t:Stp)  (tb mb:Nat) (M:MemS) (k:Nat) (T F:HL) (hM:MemH mb M (k+10) T) (hS:SetIn F t.S) :Sp Tryz.prog 126 #[vP tb 0] (ap [(tb,.lit (Stp.l t mb) 181 (0,0))] [T]) F (λ u H'=>∃x,H'=ap [(tb,.lit (Stp.l t mb) 181 (0,0))] [x] /\ (MemH mb (cq t M) k x)):=by
 have hp:=hS.pl
 have hn:=hS.nb
 have hr:=hS.room
 refine Sp.run Tryz.func126 rfl (mc hS.blk mn) (A:=[(tb,.lit (Stp.l t mb) 181 (0,0))]) (Ts:=[T]) rfl λ w0=>?_
 refine aa 8 [.own 0] λ _=>al (oO t t.i tb mb _ (aC 0))<|aa 2 [] λ _=>RN.en (0 <= t.i /\ t.i<t.S.nb) 13 (λ h1=>?_) λ h1=>?_
 ·refine aa 5 [.own 0] λ _=>al (oO t t.j tb mb _ (aC 0))<|aa 4 [] λ _=>RN.en (0 <= t.j /\ t.j<t.S.nb) 21 (λ h2=>?_) λ h2=>?_
  ·refine aa 4 [] λ _=>RN.draw [14,15] []<|af [] [0,1,6,7,2,8,3,9,4,10] [.own 0,.own 0]<|au [] 5 (λ X_=>(fH t t.i tb mb M _ T _ (kB 0) hS.up.up hM (bt 0) h1))<|au [] 11 (λ X_=>(fH t t.j tb mb M _ T _ (kB 0) hS.up.up hM (bt 0) h2))<|fD (σ:=Nat × Nat) (λ ⟨n3,n4⟩=>⟨[(0,vP tb 0),(2,vP (n3+0) 0),(3,vP (n4+0) 0)],[((n4+0),.lit [vI ((ai t.S M t.j).px),vI ((ai t.S M t.j).py),vI ((ai t.S M t.j).vx),vI ((ai t.S M t.j).vy),vI ((ai t.S M t.j).inv)] 68 (0,0)),((n3+0),.lit [vI ((ai t.S M t.i).px),vI ((ai t.S M t.i).py),vI ((ai t.S M t.i).vx),vI ((ai t.S M t.i).vy),vI ((ai t.S M t.i).inv)] 68 (0,0)),(tb,.lit (Stp.l t mb) 181 (0,0))],[T],True,0⟩) ?_ ?_
   ·rintro⟨n3,n4⟩
    refine aa 2 [] λ _=>RN.draw [33] [0,1,2]<|aL [0,1,2] [0,5,12,14,19,26,1,6,13,15,20,27,2,7,16,21,3,8,17,22,4,18,9,23,10,24,11,25] [.own 1,.own 1,.own 0,.own 0,.own 2,.own 2,.own 2,.own 2,.ix ((t.i).toNat),.ix ((t.j).toNat),.rorow 0 (t.S.bo+((t.i).toNat)) 0,.rorow 0 (t.S.bo+((t.i).toNat)) 1,.rorow 0 (t.S.bo+((t.j).toNat)) 0,.rorow 0 (t.S.bo+((t.j).toNat)) 1] [((t.S.bo*9+((t.j).toNat)*9)+1)=(t.S.bo+((t.j).toNat))*9+1 /\ (t.S.bo+((t.j).toNat))<t.S.bR,(t.S.bo*9+((t.j).toNat)*9)=(t.S.bo+((t.j).toNat))*9+0 /\ (t.S.bo+((t.j).toNat))<t.S.bR,((t.S.bo*9+((t.i).toNat)*9)+1)=(t.S.bo+((t.i).toNat))*9+1 /\ (t.S.bo+((t.i).toNat))<t.S.bR,(t.S.bo*9+((t.i).toNat)*9)=(t.S.bo+((t.i).toNat))*9+0 /\ (t.S.bo+((t.i).toNat))<t.S.bR,t.j=(((t.j).toNat:Nat):Int) /\ (t.j).toNat<t.S.nb,t.i=(((t.i).toNat:Nat):Int) /\ (t.i).toNat<t.S.nb]<|au [0,1,2] 28 (λ X_=>(kH (t.S.bods.getD (t.S.bo+((t.i).toNat)) dB).sh (⟨(ai t.S M t.i).px,(ai t.S M t.i).py⟩:V2) (t.S.bods.getD (t.S.bo+((t.j).toNat)) dB).sh (⟨(ai t.S M t.j).px,(ai t.S M t.j).py⟩:V2) _ ((hS.shp ((t.i).toNat) (by omega)).up.up) ((hS.shp ((t.j).toNat) (by omega)).up.up)))<|af [0,1,2] [29,30,31] []<|RD.one 32 (RDO.ev [] [] λ n6=>?_)
    refine RD.one 33 (RDO.ev [1,2,3] [.own 0,.own 0,.own 0] λ _=>?_)
    refine af [1,2,3] [34] []<|RD.fin<|aa 8 [] λ _=>rC ((aG (t.S.bods.getD (t.S.bo+((t.i).toNat)) dB).sh (⟨(ai t.S M t.i).px,(ai t.S M t.i).py⟩:V2) (t.S.bods.getD (t.S.bo+((t.j).toNat)) dB).sh (⟨(ai t.S M t.j).px,(ai t.S M t.j).py⟩:V2)).2) 67 (λ h7=>?_) λ h7=>?_
    ·refine aa 4 [] λ _=>RN.draw [12,13] [0,3]<|af [0,3] [0,1,2,3,4,5,6,7] (ow 2 5++ow 1 5++[.own 0,.own 0,.own 0,.own 3])<|au [0,3] 8 (λ X_=>(oq (ai t.S M t.i) (ai t.S M t.j) (aG (t.S.bods.getD (t.S.bo+((t.i).toNat)) dB).sh (⟨(ai t.S M t.i).px,(ai t.S M t.i).py⟩:V2) (t.S.bods.getD (t.S.bo+((t.j).toNat)) dB).sh (⟨(ai t.S M t.j).px,(ai t.S M t.j).py⟩:V2)).1 t.S.rest _))<|af [0,3] [9,10,11] []<|RD.one 12 (RDO.ev [0,3] (ow 2 5) λ _=>?_)
     refine RD.one 13 (RDO.ev [0,3] (ow 1 5) λ _=>?_)
     refine RD.fin<|aa 2 [] λ _=>RN.draw [6] []<|af [] [0,1,5,2,3,4] (ow 2 5++[.own 3])<|RD.one 6 (RDO.ct [] [3] [0] (lL t t.i ((aJ (ai t.S M t.i) (ai t.S M t.j) (aG (t.S.bods.getD (t.S.bo+((t.i).toNat)) dB).sh (⟨(ai t.S M t.i).px,(ai t.S M t.i).py⟩:V2) (t.S.bods.getD (t.S.bo+((t.j).toNat)) dB).sh (⟨(ai t.S M t.j).px,(ai t.S M t.j).py⟩:V2)).1 t.S.rest).1) tb mb M (k+6) T _ hM hS.up ) ?_)
     rintro _ T8 R5
     refine RD.fin<|aa 2 [] λ _=>RN.draw [6] []<|af [] [0,1,5,2,3,4] (ow 2 5++[.own 0])<|RD.one 6 (RDO.ct [] [0] [0] (lL t t.j ((aJ (ai t.S M t.i) (ai t.S M t.j) (aG (t.S.bods.getD (t.S.bo+((t.i).toNat)) dB).sh (⟨(ai t.S M t.i).px,(ai t.S M t.i).py⟩:V2) (t.S.bods.getD (t.S.bo+((t.j).toNat)) dB).sh (⟨(ai t.S M t.j).px,(ai t.S M t.j).py⟩:V2)).1 t.S.rest).2) tb mb (bG t t.i ((aJ (ai t.S M t.i) (ai t.S M t.j) (aG (t.S.bods.getD (t.S.bo+((t.i).toNat)) dB).sh (⟨(ai t.S M t.i).px,(ai t.S M t.i).py⟩:V2) (t.S.bods.getD (t.S.bo+((t.j).toNat)) dB).sh (⟨(ai t.S M t.j).px,(ai t.S M t.j).py⟩:V2)).1 t.S.rest).1) M) (k+2) T8 _ R5 hS.up ) ?_)
     rintro _ Sb PU
     refine RD.fin<|aa 2 [] λ _=>RN.draw [21] []<|af [] [0,4,8,14,1,5,9,15,2,6,10,16,3,7,11,17,18,19,20] (ow 0 19)<|au [] 12 (λ X_=>(cy t.S t.i _ hS.toSetN)) ?_
     have hb12:=cw hS.toSetN t.i
     refine aL [] [13] [.nw] [bF ((ae t.S t.i)+6)]<|RD.one 21 (RDO.ct [] [] [0] (ak ((ae t.S t.i)+6) (i64.wrap (t.j+1)) PU) ?_)
     rintro _ Sl P8
     refine RD.fin<|aa 1 [] λ _=>RN.draw [21] []<|af [] [0,4,8,14,1,5,9,15,2,6,10,16,3,7,11,17,18,19,20] (ow 0 19)<|au [] 12 (λ X_=>(cy t.S t.j _ hS.toSetN)) ?_
     have hb15:=cw hS.toSetN t.j
     refine aL [] [13] [.nw] [bF ((ae t.S t.j)+6)]<|RD.one 21 (RDO.ct [] [] [0] (ak ((ae t.S t.j)+6) (i64.wrap (t.i+1)) P8) ?_)
     rintro _ Tk RA
     refine RD.fin<|RN.ret [] [0] [0] (v:=.tuple #[]) (H':=(ap [(tb,.lit (Stp.l t mb) 181 (0,0))] [Tk])) ?_
     refine⟨Tk,rfl,?_⟩
     have e:cq t M=(((bG t t.j ((aJ (ai t.S M t.i) (ai t.S M t.j) (aG (t.S.bods.getD (t.S.bo+((t.i).toNat)) dB).sh (⟨(ai t.S M t.i).px,(ai t.S M t.i).py⟩:V2) (t.S.bods.getD (t.S.bo+((t.j).toNat)) dB).sh (⟨(ai t.S M t.j).px,(ai t.S M t.j).py⟩:V2)).1 t.S.rest).2) (bG t t.i ((aJ (ai t.S M t.i) (ai t.S M t.j) (aG (t.S.bods.getD (t.S.bo+((t.i).toNat)) dB).sh (⟨(ai t.S M t.i).px,(ai t.S M t.i).py⟩:V2) (t.S.bods.getD (t.S.bo+((t.j).toNat)) dB).sh (⟨(ai t.S M t.j).px,(ai t.S M t.j).py⟩:V2)).1 t.S.rest).1) M)).set ((ae t.S t.i)+6) (i64.wrap (t.j+1))).set ((ae t.S t.j)+6) (i64.wrap (t.i+1))):=by
      unfold cq
      rw[if_pos (show 0 <= t.i /\ t.i<t.S.nb from h1),if_pos (show 0 <= t.j /\ t.j<t.S.nb from h2),if_pos (show (jO t M).2=true from h7)]
      first|done|rfl
     rw[e]
     exact RA.weak (by omega)
    ·refine aa 1 [] λ _=>RN.ret [] [3] [0] (v:=.tuple #[]) (H':=(ap [(tb,.lit (Stp.l t mb) 181 (0,0))] [T])) ?_
     refine⟨T,rfl,?_⟩
     have e:cq t M=M:=by
      unfold cq
      rw[if_pos (show 0 <= t.i /\ t.i<t.S.nb from h1),if_pos (show 0 <= t.j /\ t.j<t.S.nb from h2),if_neg (show ¬ ((jO t M).2=true) from h7)]
      first|done|rfl
     rw[e]
     exact hM.weak (by omega)
   ·intro Qx
    refine d5 12 13 ?_ ?_
    ·refine RDO.ev [] [] λ Yu=>RD.one 13 (RDO.ev [] [] λ TE=>?_)
     refine RD.one 14 (RDO.ev [] (ow 1 5) λ _=>?_)
     refine RD.one 15 (RDO.ev [] (ow 0 5) λ _=>?_)
     exact Qx ⟨Yu,TE⟩ [0,1,2] [0]
    ·refine RDO.ev [] [] λ Pr=>RD.one 12 (RDO.ev [] [] λ Wv=>?_)
     refine RD.one 14 (RDO.ev [] (ow 0 5) λ _=>?_)
     refine RD.one 15 (RDO.ev [] (ow 1 5) λ _=>?_)
     exact Qx ⟨Wv,Pr⟩ [1,0,2] [0]
  ·refine aa 1 [] λ _=>RN.ret [] [0] [0] (v:=.tuple #[]) (H':=(ap [(tb,.lit (Stp.l t mb) 181 (0,0))] [T])) ?_
   refine⟨T,rfl,?_⟩
   have e:cq t M=M:=by
    unfold cq
    rw[if_pos (show 0 <= t.i /\ t.i<t.S.nb from h1),if_neg (show ¬ (0 <= t.j /\ t.j<t.S.nb) from h2)]
    first|done|rfl
   rw[e]
   exact hM.weak (by omega)
 ·refine aa 11 [] λ _=>RN.ret [] [0] [0] (v:=.tuple #[]) (H':=(ap [(tb,.lit (Stp.l t mb) 181 (0,0))] [T])) ?_
  refine⟨T,rfl,?_⟩
  have e:cq t M=M:=by
   unfold cq
   rw[if_neg (show ¬ (0 <= t.i /\ t.i<t.S.nb) from h1)]
   first|done|rfl
  rw[e]
  exact hM.weak (by omega)
theorem BC(t:Stp)  (tb mb:Nat) (M:MemS) (k:Nat) (T F:HL) (hM:MemH mb M (k+1) T) (hS:SetIn F t.S) (hj:0 <= t.j /\ t.j<t.S.nb):Sp Tryz.prog 129 #[vP tb 0] (ap [(tb,.lit (Stp.l t mb) 181 (0,0))] [T]) F (λ u H'=>∃x,H'=ap [(tb,.lit (Stp.l t mb) 181 (0,0))] [x] /\ (MemH mb (dH t M) k x)):=by
 have hp:=hS.pl
 have hn:=hS.nb
 have hr:=hS.room
 refine Sp.run Tryz.func129 rfl (mc hS.blk mn) (A:=[(tb,.lit (Stp.l t mb) 181 (0,0))]) (Ts:=[T]) rfl λ w0=>?_
 refine aa 2 [] λ _=>RN.draw [] []<|af [] [0,4,1,5,2,6,3,7,8,9] [.own 0,.own 0]<|RD.em (t.i=t.j) 14 (λ h1=>?_) λ h1=>?_
 ·refine af [] [10,11,12,13,14,15,16,17] []<|RD.fin<|aa 2 [] λ _=>RN.ret [] [0] [0] (v:=.tuple #[]) (H':=(ap [(tb,.lit (Stp.l t mb) 181 (0,0))] [T])) ?_
  refine⟨T,rfl,?_⟩
  have e:dH t M=M:=by
   unfold dH
   rw[if_pos (show t.i=t.j from h1)]
   first|done|rfl
  rw[e]
  exact hM.weak (by omega)
 ·refine af [] [10,11,12,13,14] [.own 0]<|au [] 15 (λ X_=>(iP t t.i tb mb _ (kB 0) hS.up.up))<|af [] [16,17] []<|RD.fin<|aa 1 [] λ _=>RN.en (movP t.S t.i) 22 (λ h2=>?_) λ h2=>?_
  ·have:=movP.has h2
   refine aa 4 [] λ _=>RN.draw [14,15] []<|af [] [0,1,6,7,2,8,3,9,4,10] [.own 0,.own 0]<|au [] 5 (λ X_=>(fH t t.i tb mb M _ T _ (kB 0) hS.up.up hM (bt 0) (movP.has h2)))<|au [] 11 (λ X_=>(fH t t.j tb mb M _ T _ (kB 0) hS.up.up hM (bt 0) hj))<|fD (σ:=Nat × Nat) (λ ⟨n3,n4⟩=>⟨[(0,vP tb 0),(2,vP (n3+0) 0),(3,vP (n4+0) 0)],[((n4+0),.lit [vI ((ai t.S M t.j).px),vI ((ai t.S M t.j).py),vI ((ai t.S M t.j).vx),vI ((ai t.S M t.j).vy),vI ((ai t.S M t.j).inv)] 68 (0,0)),((n3+0),.lit [vI ((ai t.S M t.i).px),vI ((ai t.S M t.i).py),vI ((ai t.S M t.i).vx),vI ((ai t.S M t.i).vy),vI ((ai t.S M t.i).inv)] 68 (0,0)),(tb,.lit (Stp.l t mb) 181 (0,0))],[T],True,0⟩) ?_ ?_
   ·rintro⟨n3,n4⟩
    refine aa 2 [] λ _=>RN.draw [] []<|aL [] [0,5,12,14,16,21,28,30,1,6,13,15,17,22,29,2,7,18,23,3,8,19,24,4,20,9,25,10,26,11,27] [.own 1,.own 1,.own 1,.own 1,.own 0,.own 0,.own 2,.own 2,.own 2,.own 2,.ix ((t.i).toNat),.ix ((t.j).toNat),.rorow 0 (t.S.bo+((t.i).toNat)) 0,.rorow 0 (t.S.bo+((t.i).toNat)) 1,.rorow 0 (t.S.bo+((t.j).toNat)) 0,.rorow 0 (t.S.bo+((t.j).toNat)) 1] [((t.S.bo*9+((t.j).toNat)*9)+1)=(t.S.bo+((t.j).toNat))*9+1 /\ (t.S.bo+((t.j).toNat))<t.S.bR,(t.S.bo*9+((t.j).toNat)*9)=(t.S.bo+((t.j).toNat))*9+0 /\ (t.S.bo+((t.j).toNat))<t.S.bR,((t.S.bo*9+((t.i).toNat)*9)+1)=(t.S.bo+((t.i).toNat))*9+1 /\ (t.S.bo+((t.i).toNat))<t.S.bR,(t.S.bo*9+((t.i).toNat)*9)=(t.S.bo+((t.i).toNat))*9+0 /\ (t.S.bo+((t.i).toNat))<t.S.bR,t.j=(((t.j).toNat:Nat):Int) /\ (t.j).toNat<t.S.nb,t.i=(((t.i).toNat:Nat):Int) /\ (t.i).toNat<t.S.nb]<|au [] 31 (λ X_=>(mT (t.S.bods.getD (t.S.bo+((t.i).toNat)) dB).sh (⟨(ai t.S M t.i).px,(ai t.S M t.i).py⟩:V2) (⟨(ai t.S M t.i).vx,(ai t.S M t.i).vy⟩:V2) (t.S.bods.getD (t.S.bo+((t.j).toNat)) dB).sh (⟨(ai t.S M t.j).px,(ai t.S M t.j).py⟩:V2) (⟨0,0⟩:V2) _ ((hS.shp ((t.i).toNat) (by omega)).up.up) ((hS.shp ((t.j).toNat) (by omega)).up.up)))<|af [] [32] []<|RD.fin<|aa 8 [.own 2] λ _=>al (aB 5 hM (aS 0))<|aa 3 [] λ _=>RN.em (fw (t.S.bods.getD (t.S.bo+((t.i).toNat)) dB).sh (⟨(ai t.S M t.i).px,(ai t.S M t.i).py⟩:V2) (⟨(ai t.S M t.i).vx,(ai t.S M t.i).vy⟩:V2) (t.S.bods.getD (t.S.bo+((t.j).toNat)) dB).sh (⟨(ai t.S M t.j).px,(ai t.S M t.j).py⟩:V2) (⟨0,0⟩:V2)<M.get 5) 73 (λ h5=>?_) λ h5=>?_
    ·refine aa 7 [.own 2] λ _=>RN.ct [] [0] (ak 5 (fw (t.S.bods.getD (t.S.bo+((t.i).toNat)) dB).sh (⟨(ai t.S M t.i).px,(ai t.S M t.i).py⟩:V2) (⟨(ai t.S M t.i).vx,(ai t.S M t.i).vy⟩:V2) (t.S.bods.getD (t.S.bo+((t.j).toNat)) dB).sh (⟨(ai t.S M t.j).px,(ai t.S M t.j).py⟩:V2) (⟨0,0⟩:V2)) hM) ?_
     rintro _ T6 Uj
     refine aa 1 [] λ _=>RN.ret [] [2] [0] (v:=.tuple #[]) (H':=(ap [(tb,.lit (Stp.l t mb) 181 (0,0))] [T6])) ?_
     refine⟨T6,rfl,?_⟩
     have e:dH t M=(M.set 5 (fw (t.S.bods.getD (t.S.bo+((t.i).toNat)) dB).sh (⟨(ai t.S M t.i).px,(ai t.S M t.i).py⟩:V2) (⟨(ai t.S M t.i).vx,(ai t.S M t.i).vy⟩:V2) (t.S.bods.getD (t.S.bo+((t.j).toNat)) dB).sh (⟨(ai t.S M t.j).px,(ai t.S M t.j).py⟩:V2) (⟨0,0⟩:V2))):=by
      unfold dH
      rw[if_neg (show ¬ (t.i=t.j) from h1),if_pos (show movP t.S t.i from h2),if_pos (show kq t M<M.get 5 from h5)]
      first|done|rfl
     rw[e]
     exact Uj.weak (by omega)
    ·refine aa 2 [] λ _=>RN.ret [] [2] [0] (v:=.tuple #[]) (H':=(ap [(tb,.lit (Stp.l t mb) 181 (0,0))] [T])) ?_
     refine⟨T,rfl,?_⟩
     have e:dH t M=M:=by
      unfold dH
      rw[if_neg (show ¬ (t.i=t.j) from h1),if_pos (show movP t.S t.i from h2),if_neg (show ¬ (kq t M<M.get 5) from h5)]
      first|done|rfl
     rw[e]
     exact hM.weak (by omega)
   ·intro QY
    refine d5 12 13 ?_ ?_
    ·refine RDO.ev [] [] λ n9=>RD.one 13 (RDO.ev [] [] λ Qw=>?_)
     refine RD.one 14 (RDO.ev [] (ow 1 5) λ _=>?_)
     refine RD.one 15 (RDO.ev [] (ow 0 5) λ _=>?_)
     exact QY ⟨n9,Qw⟩ [0,1,2] [0]
    ·refine RDO.ev [] [] λ n11=>RD.one 12 (RDO.ev [] [] λ TF=>?_)
     refine RD.one 14 (RDO.ev [] (ow 0 5) λ _=>?_)
     refine RD.one 15 (RDO.ev [] (ow 1 5) λ _=>?_)
     exact QY ⟨TF,n11⟩ [1,0,2] [0]
  ·refine aa 1 [] λ _=>RN.ret [] [0] [0] (v:=.tuple #[]) (H':=(ap [(tb,.lit (Stp.l t mb) 181 (0,0))] [T])) ?_
   refine⟨T,rfl,?_⟩
   have e:dH t M=M:=by
    unfold dH
    rw[if_neg (show ¬ (t.i=t.j) from h1),if_neg (show ¬ (movP t.S t.i) from h2)]
    first|done|rfl
   rw[e]
   exact hM.weak (by omega)
theorem BD(t:Stp)  (tb mb:Nat) (M:MemS) (k:Nat) (T F:HL) (hM:MemH mb M (k+8) T) (hS:SetIn F t.S) :Sp Tryz.prog 89 #[vP tb 0] (ap [(tb,.lit (Stp.l t mb) 181 (0,0))] [T]) F (λ u H'=>∃x,H'=ap [(tb,.lit (Stp.l t mb) 181 (0,0))] [x] /\ (MemH mb (cY t M) k x)):=by
 have hp:=hS.pl
 have hn:=hS.nb
 have hr:=hS.room
 refine Sp.run Tryz.func89 rfl (mc hS.blk mn) (A:=[(tb,.lit (Stp.l t mb) 181 (0,0))]) (Ts:=[T]) rfl λ w0=>?_
 refine aa 8 [.own 0] λ _=>al (oO t t.j tb mb _ (aC 0))<|aa 2 [] λ _=>RN.em (0 <= t.j /\ t.j<t.S.nb) 7 (λ h1=>?_) λ h1=>?_
 ·refine aa 4 [] λ _=>RN.ct [0] [0] (BC t tb mb M (k+7) T _ hM hS.up (by assumption)) ?_
  rintro _ T2 P6
  refine aa 3 [] λ _=>RN.draw [11] []<|af [] [0,4,1,5,2,6,3,7,8,9,10] [.own 0,.own 0]<|RD.one 11 (RDO.ct [] [] [0] (ak 3 (i64.wrap (t.j+1)) P6) ?_)
  rintro _ T4 QW
  refine RD.fin<|aa 1 [] λ _=>RN.ret [] [0] [0] (v:=.tuple #[]) (H':=(ap [(tb,.lit (Stp.l t mb) 181 (0,0))] [T4])) ?_
  refine⟨T4,rfl,?_⟩
  have e:(cY t M)=((dH t M).set 3 (i64.wrap (t.j+1))):=by
   first|(simp only[cY,eH,if_pos h1];try rfl;done)|rfl
  rw[e]
  exact QW.weak (by omega)
 ·refine aa 11 [.own 0] λ _=>al (iP t t.i tb mb _ (aC 0) hS.up)<|aa 2 [] λ _=>RN.em (movP t.S t.i) 27 (λ h6=>?_) λ h6=>?_
  ·have:=movP.has h6
   refine aa 3 [] λ _=>RN.ct [0] [0] (xB t tb mb M (k+4) T _ hM hS.up (by assumption)) ?_
   rintro _ T7 P4
   refine aa 4 [] λ _=>RN.draw [] []<|af [] [0,5,1,6,2,7,3,8,4,9,10,11] [.own 0,.own 0]<|RD.fin<|aa 1 [] λ _=>RN.em (i64.wrap (t.i+1)<(t.S.nb:Int)) 41 (λ h9=>?_) λ h9=>?_
   ·refine aa 2 [] λ _=>RN.draw [11] []<|af [] [0,4,1,5,2,6,3,7,8,9,10] [.own 0,.own 0]<|RD.one 11 (RDO.ct [] [] [0] (ak 2 (i64.wrap (t.i+1)) P4) ?_)
    rintro _ Sb PU
    refine RD.fin<|aa 7 [.own 0] λ _=>RN.ct [] [0] (ak 3 0 PU) ?_
    rintro _ T12 We
    refine aa 8 [.own 0] λ _=>RN.ct [] [0] (ak 5 1024 We) ?_
    rintro _ Sk RB
    refine aa 2 [] λ _=>RN.ret [] [0] [0] (v:=.tuple #[]) (H':=(ap [(tb,.lit (Stp.l t mb) 181 (0,0))] [Sk])) ?_
    refine⟨Sk,rfl,?_⟩
    have e:(cY t M)=((((bI t M).set 2 (i64.wrap (t.i+1))).set 3 0).set 5 1024):=by
     first|(simp only[cY,eH,if_neg h1,if_pos h6,if_pos h9];try rfl;done)|rfl
    rw[e]
    exact RB.weak (by omega)
   ·refine aa 6 [] λ _=>RN.ct [0] [0] (b9 t 6 0 tb mb (bI t M) (k+1) T7 _ P4 hS.up ) ?_
    rintro _ Tk RA
    refine aa 7 [.own 0] λ _=>RN.ct [] [0] (ak 5 0 RA) ?_
    rintro _ WV Tc
    refine aa 1 [] λ _=>RN.ret [] [0] [0] (v:=.tuple #[]) (H':=(ap [(tb,.lit (Stp.l t mb) 181 (0,0))] [WV])) ?_
    refine⟨WV,rfl,?_⟩
    have e:(cY t M)=((aQ t 6 0 (bI t M)).set 5 0):=by
     first|(simp only[cY,eH,if_neg h1,if_pos h6,if_neg h9];try rfl;done)|rfl
    rw[e]
    exact Tc.weak (by omega)
  ·refine aa 5 [] λ _=>RN.draw [] []<|af [] [0,5,1,6,2,7,3,8,4,9,10,11] [.own 0,.own 0]<|RD.fin<|aa 1 [] λ _=>RN.em (i64.wrap (t.i+1)<(t.S.nb:Int)) 41 (λ h20=>?_) λ h20=>?_
   ·refine aa 2 [] λ _=>RN.draw [11] []<|af [] [0,4,1,5,2,6,3,7,8,9,10] [.own 0,.own 0]<|RD.one 11 (RDO.ct [] [] [0] (ak 2 (i64.wrap (t.i+1)) hM) ?_)
    rintro _ Yp R7
    refine RD.fin<|aa 7 [.own 0] λ _=>RN.ct [] [0] (ak 3 0 R7) ?_
    rintro _ WU S_
    refine aa 8 [.own 0] λ _=>RN.ct [] [0] (ak 5 1024 S_) ?_
    rintro _ WT Um
    refine aa 2 [] λ _=>RN.ret [] [0] [0] (v:=.tuple #[]) (H':=(ap [(tb,.lit (Stp.l t mb) 181 (0,0))] [WT])) ?_
    refine⟨WT,rfl,?_⟩
    have e:(cY t M)=(((M.set 2 (i64.wrap (t.i+1))).set 3 0).set 5 1024):=by
     first|(simp only[cY,eH,if_neg h1,if_neg h6,if_pos h20];try rfl;done)|rfl
    rw[e]
    exact Um.weak (by omega)
   ·refine aa 6 [] λ _=>RN.ct [0] [0] (b9 t 6 0 tb mb M (k+5) T _ hM hS.up ) ?_
    rintro _ RO Qu
    refine aa 7 [.own 0] λ _=>RN.ct [] [0] (ak 5 0 Qu) ?_
    rintro _ U9 Qt
    refine aa 1 [] λ _=>RN.ret [] [0] [0] (v:=.tuple #[]) (H':=(ap [(tb,.lit (Stp.l t mb) 181 (0,0))] [U9])) ?_
    refine⟨U9,rfl,?_⟩
    have e:(cY t M)=((aQ t 6 0 M).set 5 0):=by
     first|(simp only[cY,eH,if_neg h1,if_neg h6,if_neg h20];try rfl;done)|rfl
    rw[e]
    exact Qt.weak (by omega)
theorem D6(i j n r:Int)(q1 q2:Nat)(F:HL)(h1q:(q1,.lit [vI n] 3 (0,0))∈F)(h2q:(q2,.lit [vI r] 3 (0,0))∈F):Sp Tryz.prog 127 #[vI i,vI j,vP q1 0,vP q2 0] [] F (λ u H'=>u=.tuple #[vI ((cZ i j n r).1),vI ((cZ i j n r).2.1),vI ((cZ i j n r).2.2)] /\ H'=[]):=by
 refine Sp.run Tryz.func127 rfl (mc h1q (mc h2q mn)) (A:=[]) (Ts:=[]) rfl λ w0=>?_
 refine aa 18 [.ro 0] λ _=>RN.em (i64.wrap (j+1)<n) 9 (λ h1=>?_) λ h1=>?_
 ·refine aa 12 [.ro 1] λ _=>RN.ret [] [] [] (v:=.tuple #[vI r,vI i,vI (i64.wrap (j+1))]) (H':=[]) ?_
  refine⟨?_,rfl⟩
  simp only[cZ,if_pos h1]
 ·refine aa 10 [.ro 0] λ _=>RN.em (i64.wrap (i+2)<n) 18 (λ h2=>?_) λ h2=>?_
  ·refine aa 13 [.ro 1] λ _=>RN.ret [] [] [] (v:=.tuple #[vI r,vI (i64.wrap (i+1)),vI (i64.wrap (i+2))]) (H':=[]) ?_
   refine⟨?_,rfl⟩
   simp only[cZ,if_neg h1,if_pos h2]
  ·refine aa 13 [.ro 1] λ _=>RN.ret [] [] [] (v:=.tuple #[vI (i64.wrap (r+1)),vI 0,vI 1]) (H':=[]) ?_
   refine⟨?_,rfl⟩
   simp only[cZ,if_neg h1,if_neg h2]
theorem tg(t:Stp)  (tb mb:Nat) (M:MemS) (k:Nat) (T F:HL) (hM:MemH mb M (k+14) T) (hS:SetIn F t.S) :Sp Tryz.prog 88 #[vP tb 0] (ap [(tb,.lit (Stp.l t mb) 181 (0,0))] [T]) F (λ u H'=>∃x,H'=ap [(tb,.lit (Stp.l t mb) 181 (0,0))] [x] /\ (MemH mb (bj t M) k x)):=by
 have hp:=hS.pl
 have hn:=hS.nb
 have hr:=hS.room
 refine Sp.run Tryz.func88 rfl (mc hS.blk mn) (A:=[(tb,.lit (Stp.l t mb) 181 (0,0))]) (Ts:=[T]) rfl λ w0=>?_
 refine aa 1 [] λ _=>RN.draw [13,14] []<|af [] [0,6,1,7,2,8,3,9,4,5] [.own 0,.own 0]<|au [] 10 (λ X_=>(aB 4 hM (bt 0)))<|fD (σ:=Nat × Nat) (λ ⟨n1,n2⟩=>⟨[(0,vP tb 0),(2,vP (n1+0) 0),(3,vP (n2+0) 0)],[((n2+0),.lit [vI (M.get 4)] 3 (0,0)),((n1+0),.lit [vI (t.S.nb:Int)] 3 (0,0)),(tb,.lit (Stp.l t mb) 181 (0,0))],[T],True,0⟩) ?_ ?_
 ·rintro⟨n1,n2⟩
  refine aa 3 [] λ _=>RN.draw [] []<|af [] [0,1,2] [.own 1]<|RD.em ((t.S.nb:Int)<2) 20 (λ h3=>?_) λ h3=>?_
  ·refine af [] [3,4,5,6,7,8,9,10] []<|RD.fin<|aa 5 [] λ _=>RN.ct [2] [0] (b9 t 5 0 tb mb M (k+11) T _ hM hS.up ) ?_
   rintro _ T4 QW
   refine aa 8 [.own 0] λ _=>RN.ct [] [0] (ak 5 1024 QW) ?_
   rintro _ T6 Uj
   refine aa 2 [] λ _=>RN.ret [] [0] [0] (v:=.tuple #[]) (H':=(ap [(tb,.lit (Stp.l t mb) 181 (0,0))] [T6])) ?_
   refine⟨T6,rfl,?_⟩
   have e:(bj t M)=((aQ t 5 0 M).set 5 1024):=by
    first|(simp only[bj,if_pos h3];try rfl;done)|rfl
   rw[e]
   exact Uj.weak (by omega)
  ·refine af [] [3,4,5,6,7,8,9,10] [.own 0,.own 2]<|RD.fin<|aa 1 [] λ _=>RN.em (M.get 4 >= t.S.rounds) 28 (λ h8=>?_) λ h8=>?_
   ·refine aa 4 [] λ _=>RN.ct [2] [0] (b9 t 5 0 tb mb M (k+11) T _ hM hS.up ) ?_
    rintro _ T9 PV
    refine aa 8 [.own 0] λ _=>RN.ct [] [0] (ak 5 1024 PV) ?_
    rintro _ Pp IF
    refine aa 2 [] λ _=>RN.ret [] [0] [0] (v:=.tuple #[]) (H':=(ap [(tb,.lit (Stp.l t mb) 181 (0,0))] [Pp])) ?_
    refine⟨Pp,rfl,?_⟩
    have e:(bj t M)=((aQ t 5 0 M).set 5 1024):=by
     first|(simp only[bj,if_neg h3,if_pos h8];try rfl;done)|rfl
    rw[e]
    exact IF.weak (by omega)
   ·refine aa 6 [] λ _=>RN.ct [2] [0] (xL t tb mb M (k+4) T _ hM hS.up ) ?_
    rintro _ Sl P8
    refine aa 9 [] λ _=>RN.draw [14] [0,2]<|af [0,2] [0,1,5,2,6,3,7,4,8] [.own 0,.own 0]<|au [0,2] 9 (λ X_=>(D6 t.i t.j (t.S.nb:Int) (M.get 4) (n1+0) (n2+0) _ (kB 2) (kB 1)))<|af [0,2] [10,11,12,13] []<|RD.one 14 (RDO.ev [0,2] [.own 1] λ _=>?_)
    refine af [0,2] [15,16] []<|RD.fin<|aa 2 [] λ _=>RN.draw [5] []<|af [] [0,4,1,2,3] [.own 1,.own 0]<|RD.one 5 (RDO.ct [] [] [0] (ak 4 ((cZ t.i t.j (t.S.nb:Int) (M.get 4)).1) P8) ?_)
    rintro _ QQ P7
    refine RD.fin<|aa 8 [.own 0] λ _=>RN.ct [] [0] (ak 2 ((cZ t.i t.j (t.S.nb:Int) (M.get 4)).2.1) P7) ?_
    rintro _ Q7 Qm
    refine aa 8 [.own 0] λ _=>RN.ct [] [0] (ak 3 ((cZ t.i t.j (t.S.nb:Int) (M.get 4)).2.2) Qm) ?_
    rintro _ RS Rz
    refine aa 1 [] λ _=>RN.ret [] [0] [0] (v:=.tuple #[]) (H':=(ap [(tb,.lit (Stp.l t mb) 181 (0,0))] [RS])) ?_
    refine⟨RS,rfl,?_⟩
    have e:(bj t M)=((((cq t M).set 4 ((cZ t.i t.j (t.S.nb:Int) (M.get 4)).1)).set 2 ((cZ t.i t.j (t.S.nb:Int) (M.get 4)).2.1)).set 3 ((cZ t.i t.j (t.S.nb:Int) (M.get 4)).2.2)):=by
     first|(simp only[bj,if_neg h3,if_neg h8];try rfl;done)|rfl
    rw[e]
    exact Rz.weak (by omega)
 ·intro UD
  refine d5 11 12 ?_ ?_
  ·refine RDO.ev [] [] λ Wv=>RD.one 12 (RDO.ev [] [] λ Zj=>?_)
   refine RD.one 13 (RDO.ev [] [.own 1] λ _=>?_)
   refine RD.one 14 (RDO.ev [] [.own 0] λ _=>?_)
   exact UD ⟨Wv,Zj⟩ [0,1,2] [0]
  ·refine RDO.ev [] [] λ Zi=>RD.one 11 (RDO.ev [] [] λ Zh=>?_)
   refine RD.one 13 (RDO.ev [] [.own 0] λ _=>?_)
   refine RD.one 14 (RDO.ev [] [.own 1] λ _=>?_)
   exact UD ⟨Zh,Zi⟩ [1,0,2] [0]
theorem D7(t:Stp)  (tb mb:Nat) (M:MemS) (k:Nat) (T F:HL) (hM:MemH mb M (k+14) T) (hS:SetIn F t.S) :Sp Tryz.prog 91 #[vP tb 0] (ap [(tb,.lit (Stp.l t mb) 181 (0,0))] [T]) F (λ u H'=>∃x,H'=ap [(tb,.lit [.iface 41 (vP mb 0),vI t.S.players,vS t.S.bb (t.S.bo*9) t.S.nb t.S.bc,vI t.S.box.x0,vI t.S.box.y0,vI t.S.box.x1,vI t.S.box.y1,.slice t.S.rA t.S.rn t.S.rc,.slice t.S.dA t.S.dn t.S.dc,vI t.S.fog,vI t.S.g.x,vI t.S.g.y,vI t.S.push,vI t.S.drag,vI t.S.rest,vI t.S.rounds,vI t.S.fuel,.slice t.cA t.cn t.cc,vI t.e0,vI t.e1,vI t.e2,vI t.version,vS t.ib (t.io*3) t.ni t.ic,vI t.i,vI t.j,.bool (fK t),vI t.f0,vI t.f1,vI t.f2,vI t.f3,.bool t.emitted] 181 (0,0))] [x] /\ (MemH mb (dg t M) k x)):=by
 have hp:=hS.pl
 have hn:=hS.nb
 have hr:=hS.room
 refine Sp.run Tryz.func91 rfl (mc hS.blk mn) (A:=[(tb,.lit (Stp.l t mb) 181 (0,0))]) (Ts:=[T]) rfl λ w0=>?_
 refine aa 2 [] λ _=>RN.draw [] []<|af [] [0,4,1,5,2,6,3,7] (ow 0 17)<|au [] 8 (λ X_=>(cy t.S t.i _ hS.toSetN)) ?_
 have Ri:=cw hS.toSetN t.i
 refine af [] [9] []<|RD.fin<|aa 7 [] λ _=>RN.em (ae t.S t.i >= 0) 15 (λ h2=>?_) λ h2=>?_
 ·refine aq 15 [.own 0,.nw] [bF ((ae t.S t.i)+2)] λ _=>al (aB ((ae t.S t.i)+2) hM (aS 0))<|aa 2 [] λ _=>RN.em (M.get ((ae t.S t.i)+2)=0) 24 (λ h3=>?_) λ h3=>?_
  ·refine aq 6 [.own 0,.nw] [bF ((ae t.S t.i)+3)] λ _=>al (aB ((ae t.S t.i)+3) hM (aS 0))<|aa 4 [] λ _=>RN.em (M.get ((ae t.S t.i)+3)=0) 33 (λ h4=>?_) λ h4=>?_
   ·refine aq 8 [.own 0,.nw] [bF ((ae t.S t.i)+7)] λ _=>al (aB ((ae t.S t.i)+7) hM (aS 0))<|aq 13 [.own 0,.nw] [bF ((ae t.S t.i)+7)] λ _=>RN.ct [] [0] (ak ((ae t.S t.i)+7) (if 1000<i64.wrap ((M.get ((ae t.S t.i)+7))+1) then 1000 else i64.wrap ((M.get ((ae t.S t.i)+7))+1)) hM) ?_
    rintro _ T5 P5
    refine aa 4 [] λ _=>RN.draw [] []<|af [] [0,5,1,6,2,7,3,8,4,9,10,11] [.own 0,.own 0]<|RD.fin<|aa 1 [] λ _=>RN.em (i64.wrap (t.i+1)<(t.S.nb:Int)) 62 (λ h7=>?_) λ h7=>?_
    ·refine aa 2 [] λ _=>RN.draw [11] []<|af [] [0,4,1,5,2,6,3,7,8,9,10] [.own 0,.own 0]<|RD.one 11 (RDO.ct [] [] [0] (ak 2 (i64.wrap (t.i+1)) P5) ?_)
     rintro _ T8 R5
     refine RD.fin<|aa 1 [] λ _=>RN.ret [] [0] [0] (v:=.tuple #[]) (H':=(ap [(tb,.lit (Stp.l t mb) 181 (0,0))] [T8])) ?_
     refine⟨T8,by simp only[fK,Stp.l,if_pos h2,if_pos h3,if_pos h4,if_pos h7],?_⟩
     have e:(dg t M)=((M.set ((ae t.S t.i)+7) (if 1000<i64.wrap ((M.get ((ae t.S t.i)+7))+1) then 1000 else i64.wrap ((M.get ((ae t.S t.i)+7))+1))).set 2 (i64.wrap (t.i+1))):=by
      simp only[dg,eA,fT,if_pos h2,if_pos h3,if_pos h4,if_pos h7]
     rw[e]
     exact R5.weak (by omega)
    ·refine aa 12 [.own 0] λ _=>RN.draw [12] []<|af [] [0,4,1,5,2,6,3,7,10,11] [.own 0,.own 0]<|au [] 8 (λ X_=>(aB 0 P5 (bt 0)))<|af [] [9] []<|RD.one 12 (RDO.ct [] [] [0] (ak 0 (i64.wrap (((M.set ((ae t.S t.i)+7) (if 1000<i64.wrap ((M.get ((ae t.S t.i)+7))+1) then 1000 else i64.wrap ((M.get ((ae t.S t.i)+7))+1))).get 0)+1)) P5) ?_)
     rintro _ Sb PU
     refine RD.fin<|aa 7 [] λ _=>RN.loop (σ:=Nat × HL) (λ ⟨n,T_⟩=>⟨[(0,vP tb 0),(4,vI ((n+1:Nat):Int))],[(tb,.lit [.iface 41 (vP mb 0),vI t.S.players,vS t.S.bb (t.S.bo*9) t.S.nb t.S.bc,vI t.S.box.x0,vI t.S.box.y0,vI t.S.box.x1,vI t.S.box.y1,.slice t.S.rA t.S.rn t.S.rc,.slice t.S.dA t.S.dn t.S.dc,vI t.S.fog,vI t.S.g.x,vI t.S.g.y,vI t.S.push,vI t.S.drag,vI t.S.rest,vI t.S.rounds,vI t.S.fuel,.slice t.cA t.cn t.cc,vI t.e0,vI t.e1,vI t.e2,vI t.version,vS t.ib (t.io*3) t.ni t.ic,vI t.i,vI t.j,.bool true,vI t.f0,vI t.f1,vI t.f2,vI t.f3,.bool t.emitted] 181 (0,0))],[T_],n <= 10 /\ MemH mb (cf ((M.set ((ae t.S t.i)+7) (if 1000<i64.wrap ((M.get ((ae t.S t.i)+7))+1) then 1000 else i64.wrap ((M.get ((ae t.S t.i)+7))+1))).set 0 (i64.wrap (((M.set ((ae t.S t.i)+7) (if 1000<i64.wrap ((M.get ((ae t.S t.i)+7))+1) then 1000 else i64.wrap ((M.get ((ae t.S t.i)+7))+1))).get 0)+1))) n) (k+10-n) T_,10-n⟩) (0,Sb) [0] [0] (⟨by omega,PU.weak (by omega)⟩) ?_
     rintro⟨n,T_⟩ ⟨Tm,PD⟩ Sr
     refine aa 7 [] λ _=>RN.em (((n+1:Nat):Int) <= 10) 92 (λ QD=>?_) λ QD=>?_
     ·obtain⟨e_,Pw⟩:∃e,k+10-n=e+1:=⟨k+9-n,by omega⟩
      have Ry:MemH mb (cf ((M.set ((ae t.S t.i)+7) (if 1000<i64.wrap ((M.get ((ae t.S t.i)+7))+1) then 1000 else i64.wrap ((M.get ((ae t.S t.i)+7))+1))).set 0 (i64.wrap (((M.set ((ae t.S t.i)+7) (if 1000<i64.wrap ((M.get ((ae t.S t.i)+7))+1) then 1000 else i64.wrap ((M.get ((ae t.S t.i)+7))+1))).get 0)+1))) n) (e_+1) T_:=Pw ▸ PD
      refine aa 11 [.own 0] λ _=>RN.ct [] [0] (ak ((n+1:Nat):Int) 0 Ry) ?_
      rintro _ QQ P7
      refine aq 8 [.nw] [bF (((n+1:Nat):Int)+1)] λ _=>?_
      refine Sr (n+1,QQ) [0] [0] ?_
      try dsimp only
      refine⟨⟨by omega,P7.cast (by rw[cf]) (by omega)⟩,by omega⟩
     ·refine aa 5 [] λ _=>RN.ret [] [0] [0] (v:=.tuple #[]) (H':=(ap [(tb,.lit [.iface 41 (vP mb 0),vI t.S.players,vS t.S.bb (t.S.bo*9) t.S.nb t.S.bc,vI t.S.box.x0,vI t.S.box.y0,vI t.S.box.x1,vI t.S.box.y1,.slice t.S.rA t.S.rn t.S.rc,.slice t.S.dA t.S.dn t.S.dc,vI t.S.fog,vI t.S.g.x,vI t.S.g.y,vI t.S.push,vI t.S.drag,vI t.S.rest,vI t.S.rounds,vI t.S.fuel,.slice t.cA t.cn t.cc,vI t.e0,vI t.e1,vI t.e2,vI t.version,vS t.ib (t.io*3) t.ni t.ic,vI t.i,vI t.j,.bool true,vI t.f0,vI t.f1,vI t.f2,vI t.f3,.bool t.emitted] 181 (0,0))] [T_])) ?_
      refine⟨T_,by simp only[fK,Stp.l,if_pos h2,if_pos h3,if_pos h4,if_neg h7,if_neg QD],?_⟩
      have en:n=10:=by omega
      have e:(dg t M)=(cf ((M.set ((ae t.S t.i)+7) (if 1000<i64.wrap ((M.get ((ae t.S t.i)+7))+1) then 1000 else i64.wrap ((M.get ((ae t.S t.i)+7))+1))).set 0 (i64.wrap (((M.set ((ae t.S t.i)+7) (if 1000<i64.wrap ((M.get ((ae t.S t.i)+7))+1) then 1000 else i64.wrap ((M.get ((ae t.S t.i)+7))+1))).get 0)+1))) n):=by
       rw[en]
       simp only[dg,eA,fT,if_pos h2,if_pos h3,if_pos h4,if_neg h7,if_neg QD]
      rw[e]
      exact PD.weak (by omega)
   ·refine aq 11 [.own 0,.nw] [bF ((ae t.S t.i)+7)] λ _=>RN.ct [] [0] (ak ((ae t.S t.i)+7) 0 hM) ?_
    rintro _ Q7 Qm
    refine aa 4 [] λ _=>RN.draw [] []<|af [] [0,5,1,6,2,7,3,8,4,9,10,11] [.own 0,.own 0]<|RD.fin<|aa 1 [] λ _=>RN.em (i64.wrap (t.i+1)<(t.S.nb:Int)) 62 (λ Tg=>?_) λ Tg=>?_
    ·refine aa 2 [] λ _=>RN.draw [11] []<|af [] [0,4,1,5,2,6,3,7,8,9,10] [.own 0,.own 0]<|RD.one 11 (RDO.ct [] [] [0] (ak 2 (i64.wrap (t.i+1)) Qm) ?_)
     rintro _ Sj Tb
     refine RD.fin<|aa 1 [] λ _=>RN.ret [] [0] [0] (v:=.tuple #[]) (H':=(ap [(tb,.lit (Stp.l t mb) 181 (0,0))] [Sj])) ?_
     refine⟨Sj,by simp only[fK,Stp.l,if_pos h2,if_pos h3,if_neg h4,if_pos Tg],?_⟩
     have e:(dg t M)=((M.set ((ae t.S t.i)+7) 0).set 2 (i64.wrap (t.i+1))):=by
      simp only[dg,eA,fT,if_pos h2,if_pos h3,if_neg h4,if_pos Tg]
     rw[e]
     exact Tb.weak (by omega)
    ·refine aa 12 [.own 0] λ _=>RN.draw [12] []<|af [] [0,4,1,5,2,6,3,7,10,11] [.own 0,.own 0]<|au [] 8 (λ X_=>(aB 0 Qm (bt 0)))<|af [] [9] []<|RD.one 12 (RDO.ct [] [] [0] (ak 0 (i64.wrap (((M.set ((ae t.S t.i)+7) 0).get 0)+1)) Qm) ?_)
     rintro _ Wq Ta
     refine RD.fin<|aa 7 [] λ _=>RN.loop (σ:=Nat × HL) (λ ⟨n,T_⟩=>⟨[(0,vP tb 0),(4,vI ((n+1:Nat):Int))],[(tb,.lit [.iface 41 (vP mb 0),vI t.S.players,vS t.S.bb (t.S.bo*9) t.S.nb t.S.bc,vI t.S.box.x0,vI t.S.box.y0,vI t.S.box.x1,vI t.S.box.y1,.slice t.S.rA t.S.rn t.S.rc,.slice t.S.dA t.S.dn t.S.dc,vI t.S.fog,vI t.S.g.x,vI t.S.g.y,vI t.S.push,vI t.S.drag,vI t.S.rest,vI t.S.rounds,vI t.S.fuel,.slice t.cA t.cn t.cc,vI t.e0,vI t.e1,vI t.e2,vI t.version,vS t.ib (t.io*3) t.ni t.ic,vI t.i,vI t.j,.bool true,vI t.f0,vI t.f1,vI t.f2,vI t.f3,.bool t.emitted] 181 (0,0))],[T_],n <= 10 /\ MemH mb (cf ((M.set ((ae t.S t.i)+7) 0).set 0 (i64.wrap (((M.set ((ae t.S t.i)+7) 0).get 0)+1))) n) (k+10-n) T_,10-n⟩) (0,Wq) [0] [0] (⟨by omega,Ta.weak (by omega)⟩) ?_
     rintro⟨n,T_⟩ ⟨Tm,PD⟩ Zn
     refine aa 7 [] λ _=>RN.em (((n+1:Nat):Int) <= 10) 92 (λ P_=>?_) λ P_=>?_
     ·obtain⟨e_,Pw⟩:∃e,k+10-n=e+1:=⟨k+9-n,by omega⟩
      have Ry:MemH mb (cf ((M.set ((ae t.S t.i)+7) 0).set 0 (i64.wrap (((M.set ((ae t.S t.i)+7) 0).get 0)+1))) n) (e_+1) T_:=Pw ▸ PD
      refine aa 11 [.own 0] λ _=>RN.ct [] [0] (ak ((n+1:Nat):Int) 0 Ry) ?_
      rintro _ RO Qu
      refine aq 8 [.nw] [bF (((n+1:Nat):Int)+1)] λ _=>?_
      refine Zn (n+1,RO) [0] [0] ?_
      try dsimp only
      refine⟨⟨by omega,Qu.cast (by rw[cf]) (by omega)⟩,by omega⟩
     ·refine aa 5 [] λ _=>RN.ret [] [0] [0] (v:=.tuple #[]) (H':=(ap [(tb,.lit [.iface 41 (vP mb 0),vI t.S.players,vS t.S.bb (t.S.bo*9) t.S.nb t.S.bc,vI t.S.box.x0,vI t.S.box.y0,vI t.S.box.x1,vI t.S.box.y1,.slice t.S.rA t.S.rn t.S.rc,.slice t.S.dA t.S.dn t.S.dc,vI t.S.fog,vI t.S.g.x,vI t.S.g.y,vI t.S.push,vI t.S.drag,vI t.S.rest,vI t.S.rounds,vI t.S.fuel,.slice t.cA t.cn t.cc,vI t.e0,vI t.e1,vI t.e2,vI t.version,vS t.ib (t.io*3) t.ni t.ic,vI t.i,vI t.j,.bool true,vI t.f0,vI t.f1,vI t.f2,vI t.f3,.bool t.emitted] 181 (0,0))] [T_])) ?_
      refine⟨T_,by simp only[fK,Stp.l,if_pos h2,if_pos h3,if_neg h4,if_neg Tg,if_neg P_],?_⟩
      have en:n=10:=by omega
      have e:(dg t M)=(cf ((M.set ((ae t.S t.i)+7) 0).set 0 (i64.wrap (((M.set ((ae t.S t.i)+7) 0).get 0)+1))) n):=by
       rw[en]
       simp only[dg,eA,fT,if_pos h2,if_pos h3,if_neg h4,if_neg Tg,if_neg P_]
      rw[e]
      exact PD.weak (by omega)
  ·refine aq 22 [.own 0,.nw] [bF ((ae t.S t.i)+7)] λ _=>RN.ct [] [0] (ak ((ae t.S t.i)+7) 0 hM) ?_
   rintro _ U9 Qt
   refine aa 4 [] λ _=>RN.draw [] []<|af [] [0,5,1,6,2,7,3,8,4,9,10,11] [.own 0,.own 0]<|RD.fin<|aa 1 [] λ _=>RN.em (i64.wrap (t.i+1)<(t.S.nb:Int)) 62 (λ RE=>?_) λ RE=>?_
   ·refine aa 2 [] λ _=>RN.draw [11] []<|af [] [0,4,1,5,2,6,3,7,8,9,10] [.own 0,.own 0]<|RD.one 11 (RDO.ct [] [] [0] (ak 2 (i64.wrap (t.i+1)) Qt) ?_)
    rintro _ U8 R6
    refine RD.fin<|aa 1 [] λ _=>RN.ret [] [0] [0] (v:=.tuple #[]) (H':=(ap [(tb,.lit (Stp.l t mb) 181 (0,0))] [U8])) ?_
    refine⟨U8,by simp only[fK,Stp.l,if_pos h2,if_neg h3,if_pos RE],?_⟩
    have e:(dg t M)=((M.set ((ae t.S t.i)+7) 0).set 2 (i64.wrap (t.i+1))):=by
     simp only[dg,eA,fT,if_pos h2,if_neg h3,if_pos RE]
    rw[e]
    exact R6.weak (by omega)
   ·refine aa 12 [.own 0] λ _=>RN.draw [12] []<|af [] [0,4,1,5,2,6,3,7,10,11] [.own 0,.own 0]<|au [] 8 (λ X_=>(aB 0 Qt (bt 0)))<|af [] [9] []<|RD.one 12 (RDO.ct [] [] [0] (ak 0 (i64.wrap (((M.set ((ae t.S t.i)+7) 0).get 0)+1)) Qt) ?_)
    rintro _ Wo Ul
    refine RD.fin<|aa 7 [] λ _=>RN.loop (σ:=Nat × HL) (λ ⟨n,T_⟩=>⟨[(0,vP tb 0),(4,vI ((n+1:Nat):Int))],[(tb,.lit [.iface 41 (vP mb 0),vI t.S.players,vS t.S.bb (t.S.bo*9) t.S.nb t.S.bc,vI t.S.box.x0,vI t.S.box.y0,vI t.S.box.x1,vI t.S.box.y1,.slice t.S.rA t.S.rn t.S.rc,.slice t.S.dA t.S.dn t.S.dc,vI t.S.fog,vI t.S.g.x,vI t.S.g.y,vI t.S.push,vI t.S.drag,vI t.S.rest,vI t.S.rounds,vI t.S.fuel,.slice t.cA t.cn t.cc,vI t.e0,vI t.e1,vI t.e2,vI t.version,vS t.ib (t.io*3) t.ni t.ic,vI t.i,vI t.j,.bool true,vI t.f0,vI t.f1,vI t.f2,vI t.f3,.bool t.emitted] 181 (0,0))],[T_],n <= 10 /\ MemH mb (cf ((M.set ((ae t.S t.i)+7) 0).set 0 (i64.wrap (((M.set ((ae t.S t.i)+7) 0).get 0)+1))) n) (k+10-n) T_,10-n⟩) (0,Wo) [0] [0] (⟨by omega,Ul.weak (by omega)⟩) ?_
    rintro⟨n,T_⟩ ⟨Tm,PD⟩ Zm
    refine aa 7 [] λ _=>RN.em (((n+1:Nat):Int) <= 10) 92 (λ Yc=>?_) λ Yc=>?_
    ·obtain⟨e_,Pw⟩:∃e,k+10-n=e+1:=⟨k+9-n,by omega⟩
     have Ry:MemH mb (cf ((M.set ((ae t.S t.i)+7) 0).set 0 (i64.wrap (((M.set ((ae t.S t.i)+7) 0).get 0)+1))) n) (e_+1) T_:=Pw ▸ PD
     refine aa 11 [.own 0] λ _=>RN.ct [] [0] (ak ((n+1:Nat):Int) 0 Ry) ?_
     rintro _ Uy QO
     refine aq 8 [.nw] [bF (((n+1:Nat):Int)+1)] λ _=>?_
     refine Zm (n+1,Uy) [0] [0] ?_
     try dsimp only
     refine⟨⟨by omega,QO.cast (by rw[cf]) (by omega)⟩,by omega⟩
    ·refine aa 5 [] λ _=>RN.ret [] [0] [0] (v:=.tuple #[]) (H':=(ap [(tb,.lit [.iface 41 (vP mb 0),vI t.S.players,vS t.S.bb (t.S.bo*9) t.S.nb t.S.bc,vI t.S.box.x0,vI t.S.box.y0,vI t.S.box.x1,vI t.S.box.y1,.slice t.S.rA t.S.rn t.S.rc,.slice t.S.dA t.S.dn t.S.dc,vI t.S.fog,vI t.S.g.x,vI t.S.g.y,vI t.S.push,vI t.S.drag,vI t.S.rest,vI t.S.rounds,vI t.S.fuel,.slice t.cA t.cn t.cc,vI t.e0,vI t.e1,vI t.e2,vI t.version,vS t.ib (t.io*3) t.ni t.ic,vI t.i,vI t.j,.bool true,vI t.f0,vI t.f1,vI t.f2,vI t.f3,.bool t.emitted] 181 (0,0))] [T_])) ?_
     refine⟨T_,by simp only[fK,Stp.l,if_pos h2,if_neg h3,if_neg RE,if_neg Yc],?_⟩
     have en:n=10:=by omega
     have e:(dg t M)=(cf ((M.set ((ae t.S t.i)+7) 0).set 0 (i64.wrap (((M.set ((ae t.S t.i)+7) 0).get 0)+1))) n):=by
      rw[en]
      simp only[dg,eA,fT,if_pos h2,if_neg h3,if_neg RE,if_neg Yc]
     rw[e]
     exact PD.weak (by omega)
 ·refine aa 5 [] λ _=>RN.draw [] []<|af [] [0,5,1,6,2,7,3,8,4,9,10,11] [.own 0,.own 0]<|RD.fin<|aa 1 [] λ _=>RN.em (i64.wrap (t.i+1)<(t.S.nb:Int)) 62 (λ P9=>?_) λ P9=>?_
  ·refine aa 2 [] λ _=>RN.draw [11] []<|af [] [0,4,1,5,2,6,3,7,8,9,10] [.own 0,.own 0]<|RD.one 11 (RDO.ct [] [] [0] (ak 2 (i64.wrap (t.i+1)) hM) ?_)
   rintro _ U7 S6
   refine RD.fin<|aa 1 [] λ _=>RN.ret [] [0] [0] (v:=.tuple #[]) (H':=(ap [(tb,.lit (Stp.l t mb) 181 (0,0))] [U7])) ?_
   refine⟨U7,by simp only[fK,Stp.l,if_neg h2,if_pos P9],?_⟩
   have e:(dg t M)=(M.set 2 (i64.wrap (t.i+1))):=by
    simp only[dg,eA,fT,if_neg h2,if_pos P9]
   rw[e]
   exact S6.weak (by omega)
  ·refine aa 12 [.own 0] λ _=>RN.draw [12] []<|af [] [0,4,1,5,2,6,3,7,10,11] [.own 0,.own 0]<|au [] 8 (λ X_=>(aB 0 hM (bt 0)))<|af [] [9] []<|RD.one 12 (RDO.ct [] [] [0] (ak 0 (i64.wrap ((M.get 0)+1)) hM) ?_)
   rintro _ Ym S5
   refine RD.fin<|aa 7 [] λ _=>RN.loop (σ:=Nat × HL) (λ ⟨n,T_⟩=>⟨[(0,vP tb 0),(4,vI ((n+1:Nat):Int))],[(tb,.lit [.iface 41 (vP mb 0),vI t.S.players,vS t.S.bb (t.S.bo*9) t.S.nb t.S.bc,vI t.S.box.x0,vI t.S.box.y0,vI t.S.box.x1,vI t.S.box.y1,.slice t.S.rA t.S.rn t.S.rc,.slice t.S.dA t.S.dn t.S.dc,vI t.S.fog,vI t.S.g.x,vI t.S.g.y,vI t.S.push,vI t.S.drag,vI t.S.rest,vI t.S.rounds,vI t.S.fuel,.slice t.cA t.cn t.cc,vI t.e0,vI t.e1,vI t.e2,vI t.version,vS t.ib (t.io*3) t.ni t.ic,vI t.i,vI t.j,.bool true,vI t.f0,vI t.f1,vI t.f2,vI t.f3,.bool t.emitted] 181 (0,0))],[T_],n <= 10 /\ MemH mb (cf (M.set 0 (i64.wrap ((M.get 0)+1))) n) (k+10-n) T_,10-n⟩) (0,Ym) [0] [0] (⟨by omega,S5.weak (by omega)⟩) ?_
   rintro⟨n,T_⟩ ⟨Tm,PD⟩ Zl
   refine aa 7 [] λ _=>RN.em (((n+1:Nat):Int) <= 10) 92 (λ Qn=>?_) λ Qn=>?_
   ·obtain⟨e_,Pw⟩:∃e,k+10-n=e+1:=⟨k+9-n,by omega⟩
    have Ry:MemH mb (cf (M.set 0 (i64.wrap ((M.get 0)+1))) n) (e_+1) T_:=Pw ▸ PD
    refine aa 11 [.own 0] λ _=>RN.ct [] [0] (ak ((n+1:Nat):Int) 0 Ry) ?_
    rintro _ Ux QN
    refine aq 8 [.nw] [bF (((n+1:Nat):Int)+1)] λ _=>?_
    refine Zl (n+1,Ux) [0] [0] ?_
    try dsimp only
    refine⟨⟨by omega,QN.cast (by rw[cf]) (by omega)⟩,by omega⟩
   ·refine aa 5 [] λ _=>RN.ret [] [0] [0] (v:=.tuple #[]) (H':=(ap [(tb,.lit [.iface 41 (vP mb 0),vI t.S.players,vS t.S.bb (t.S.bo*9) t.S.nb t.S.bc,vI t.S.box.x0,vI t.S.box.y0,vI t.S.box.x1,vI t.S.box.y1,.slice t.S.rA t.S.rn t.S.rc,.slice t.S.dA t.S.dn t.S.dc,vI t.S.fog,vI t.S.g.x,vI t.S.g.y,vI t.S.push,vI t.S.drag,vI t.S.rest,vI t.S.rounds,vI t.S.fuel,.slice t.cA t.cn t.cc,vI t.e0,vI t.e1,vI t.e2,vI t.version,vS t.ib (t.io*3) t.ni t.ic,vI t.i,vI t.j,.bool true,vI t.f0,vI t.f1,vI t.f2,vI t.f3,.bool t.emitted] 181 (0,0))] [T_])) ?_
    refine⟨T_,by simp only[fK,Stp.l,if_neg h2,if_neg P9,if_neg Qn],?_⟩
    have en:n=10:=by omega
    have e:(dg t M)=(cf (M.set 0 (i64.wrap ((M.get 0)+1))) n):=by
     rw[en]
     simp only[dg,eA,fT,if_neg h2,if_neg P9,if_neg Qn]
    rw[e]
    exact PD.weak (by omega)
end Go.Proofs.YthoijjeddhfcnaaGreatDoor
