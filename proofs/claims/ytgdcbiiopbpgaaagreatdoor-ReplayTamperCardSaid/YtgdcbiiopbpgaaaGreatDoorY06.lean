import Derived.Test.YtgdcbiiopbpgaaaGreatDoorY05
import Derived.Test.YtgdcbiiopbpgaaaGreatDoorY03
import Derived.Test.YtgdcbiiopbpgaaaGreatDoorY02
set_option maxHeartbeats 4000000
set_option maxRecDepth 100000
set_option linter.unusedSimpArgs false
set_option linter.unusedVariables false
namespace Go.Proofs.YtgdcbiiopbpgaaaGreatDoor
open IntKind
open Go.RowKit
def sT(t:Stp)(M:MemS):Con × Bool:=cB (t.S.body t.i.toNat).sh ⟨(ao t.S M t.i).px,(ao t.S M t.i).py⟩ (t.S.body t.j.toNat).sh ⟨(ao t.S M t.j).px,(ao t.S M t.j).py⟩
def wF(t:Stp)(M:MemS):Mot × Mot:=cC (ao t.S M t.i) (ao t.S M t.j) (sT t M).1 t.S.rest
def gJ(t:Stp)(M:MemS):MemS:=((dP t t.j (wF t M).2 (dP t t.i (wF t M).1 M)).set (af t.S t.i+6) (bg (t.j+1))).set (af t.S t.j+6) (bg (t.i+1))
def dV(t:Stp)(M:MemS):MemS:=if 0 <= t.i /\ t.i<t.S.nb then if 0 <= t.j /\ t.j<t.S.nb then if (sT t M).2=true then gJ t M else M else M else M
def sU(t:Stp)(M:MemS):Int:=mG (t.S.body t.i.toNat).sh ⟨(ao t.S M t.i).px,(ao t.S M t.i).py⟩ ⟨(ao t.S M t.i).vx,(ao t.S M t.i).vy⟩ (t.S.body t.j.toNat).sh ⟨(ao t.S M t.j).px,(ao t.S M t.j).py⟩ ⟨0,0⟩
def eZ(t:Stp)(M:MemS):MemS:=if t.i=t.j then M else if movP t.S t.i then (if sU t M<M.get 5 then M.set 5 (sU t M) else M) else M
def fS(t:Stp)(M:MemS):MemS:=if bg (t.i+1)<t.S.nb then ((M.set 2 (bg (t.i+1))).set 3 0).set 5 1024 else (aL t 6 0 M).set 5 0
def dZ(t:Stp)(M:MemS):MemS:=if 0 <= t.j /\ t.j<t.S.nb then (eZ t M).set 3 (bg (t.j+1)) else fS t (if movP t.S t.i then dk t M else M)
def dt(i j n r:Int):Int × Int × Int:=if bg (j+1)<n then (r,i,bg (j+1)) else if bg (i+2)<n then (r,bg (i+1),bg (i+2)) else (bg (r+1),0,1)
def bT(t:Stp)(M:MemS):MemS:=if (t.S.nb:Int)<2 then (aL t 5 0 M).set 5 1024 else if M.get 4 >= t.S.rounds then (aL t 5 0 M).set 5 1024 else (((dV t M).set 4 (dt t.i t.j t.S.nb (M.get 4)).1).set 2 (dt t.i t.j t.S.nb (M.get 4)).2.1).set 3 (dt t.i t.j t.S.nb (M.get 4)).2.2
theorem zo(t:Stp)  (tb mb:Nat) (M:MemS) (k:Nat) (T F:HL) (hM:MemH mb M (k+10) T) (hS:SetIn F t.S) :Sp Tryz.prog 192 #[vP tb 0] (ap [(tb,.lit (Stp.l t mb) 275 (0,0))] [T]) F (λ u H'=>∃x,H'=ap [(tb,.lit (Stp.l t mb) 275 (0,0))] [x] /\ (MemH mb (dV t M) k x)):=by
 have hp:=hS.pl
 have hn:=hS.nb
 have hr:=hS.room
 refine Sp.run Tryz.func192 rfl (mc hS.blk mn) (A:=[(tb,.lit (Stp.l t mb) 275 (0,0))]) (Ts:=[T]) rfl λ w0=>?_
 refine ae 8 [.own 0] λ _=>RN.cp (qo t t.i tb mb _ (az 0))<|ae 2 [] λ _=>RN.en (0 <= t.i /\ t.i<t.S.nb) 13 (λ h1=>?_) λ h1=>?_
 ·refine ae 5 [.own 0] λ _=>RN.cp (qo t t.j tb mb _ (az 0))<|ae 4 [] λ _=>RN.en (0 <= t.j /\ t.j<t.S.nb) 21 (λ h2=>?_) λ h2=>?_
  ·refine ae 4 [] λ _=>RN.draw [14,15] []<|ag [] [0,1,6,7,2,8,3,9,4,10] [.own 0,.own 0]<|RD.cp [] 5 (λ X_=>(fE t t.i tb mb M _ T _ (jH 0) hS.up.up hM (aS 0) h1))<|RD.cp [] 11 (λ X_=>(fE t t.j tb mb M _ T _ (jH 0) hS.up.up hM (aS 0) h2))<|jU (σ:=Nat × Nat) (λ ⟨n3,n4⟩=>⟨[(0,vP tb 0),(2,vP (n3+0) 0),(3,vP (n4+0) 0)],[((n4+0),.lit [vI ((ao t.S M t.j).px),vI ((ao t.S M t.j).py),vI ((ao t.S M t.j).vx),vI ((ao t.S M t.j).vy),vI ((ao t.S M t.j).inv)] 76 (0,0)),((n3+0),.lit [vI ((ao t.S M t.i).px),vI ((ao t.S M t.i).py),vI ((ao t.S M t.i).vx),vI ((ao t.S M t.i).vy),vI ((ao t.S M t.i).inv)] 76 (0,0)),(tb,.lit (Stp.l t mb) 275 (0,0))],[T],True,0⟩) ?_ ?_
   ·rintro⟨n3,n4⟩
    refine ae 2 [] λ _=>RN.draw [33] [0,1,2]<|aG [0,1,2] [0,5,12,14,19,26,1,6,13,15,20,27,2,7,16,21,3,8,17,22,4,18,9,23,10,24,11,25] [.own 1,.own 1,.own 0,.own 0,.own 2,.own 2,.own 2,.own 2,.ix ((t.i).toNat),.ix ((t.j).toNat),.rorow 0 (t.S.bo+((t.i).toNat)) 0,.rorow 0 (t.S.bo+((t.i).toNat)) 1,.rorow 0 (t.S.bo+((t.j).toNat)) 0,.rorow 0 (t.S.bo+((t.j).toNat)) 1] [((t.S.bo*9+((t.j).toNat)*9)+1)=(t.S.bo+((t.j).toNat))*9+1 /\ (t.S.bo+((t.j).toNat))<t.S.bR,(t.S.bo*9+((t.j).toNat)*9)=(t.S.bo+((t.j).toNat))*9+0 /\ (t.S.bo+((t.j).toNat))<t.S.bR,((t.S.bo*9+((t.i).toNat)*9)+1)=(t.S.bo+((t.i).toNat))*9+1 /\ (t.S.bo+((t.i).toNat))<t.S.bR,(t.S.bo*9+((t.i).toNat)*9)=(t.S.bo+((t.i).toNat))*9+0 /\ (t.S.bo+((t.i).toNat))<t.S.bR,t.j=(((t.j).toNat:Nat):Int) /\ (t.j).toNat<t.S.nb,t.i=(((t.i).toNat:Nat):Int) /\ (t.i).toNat<t.S.nb]<|RD.cp [0,1,2] 28 (λ X_=>(pN (t.S.bods.getD (t.S.bo+((t.i).toNat)) dB).sh (⟨(ao t.S M t.i).px,(ao t.S M t.i).py⟩:V2) (t.S.bods.getD (t.S.bo+((t.j).toNat)) dB).sh (⟨(ao t.S M t.j).px,(ao t.S M t.j).py⟩:V2) _ ((hS.shp ((t.i).toNat) (by omega)).up.up) ((hS.shp ((t.j).toNat) (by omega)).up.up)))<|ag [0,1,2] [29,30,31] []<|RD.one 32 (RDO.ev [] [] λ n6=>?_)
    refine RD.one 33 (RDO.ev [1,2,3] [.own 0,.own 0,.own 0] λ _=>?_)
    refine ag [1,2,3] [34] []<|RD.fin<|ae 8 [] λ _=>tq ((cB (t.S.bods.getD (t.S.bo+((t.i).toNat)) dB).sh (⟨(ao t.S M t.i).px,(ao t.S M t.i).py⟩:V2) (t.S.bods.getD (t.S.bo+((t.j).toNat)) dB).sh (⟨(ao t.S M t.j).px,(ao t.S M t.j).py⟩:V2)).2) 67 (λ h7=>?_) λ h7=>?_
    ·refine ae 4 [] λ _=>RN.draw [12,13] [0,3]<|ag [0,3] [0,1,2,3,4,5,6,7] (ow 2 5++ow 1 5++[.own 0,.own 0,.own 0,.own 3])<|RD.cp [0,3] 8 (λ X_=>(wE (ao t.S M t.i) (ao t.S M t.j) (cB (t.S.bods.getD (t.S.bo+((t.i).toNat)) dB).sh (⟨(ao t.S M t.i).px,(ao t.S M t.i).py⟩:V2) (t.S.bods.getD (t.S.bo+((t.j).toNat)) dB).sh (⟨(ao t.S M t.j).px,(ao t.S M t.j).py⟩:V2)).1 t.S.rest _))<|ag [0,3] [9,10,11] []<|RD.one 12 (RDO.ev [0,3] (ow 2 5) λ _=>?_)
     refine RD.one 13 (RDO.ev [0,3] (ow 1 5) λ _=>?_)
     refine RD.fin<|ae 2 [] λ _=>RN.draw [6] []<|ag [] [0,1,5,2,3,4] (ow 2 5++[.own 3])<|RD.one 6 (RDO.ct [] [3] [0] (mF t t.i ((cC (ao t.S M t.i) (ao t.S M t.j) (cB (t.S.bods.getD (t.S.bo+((t.i).toNat)) dB).sh (⟨(ao t.S M t.i).px,(ao t.S M t.i).py⟩:V2) (t.S.bods.getD (t.S.bo+((t.j).toNat)) dB).sh (⟨(ao t.S M t.j).px,(ao t.S M t.j).py⟩:V2)).1 t.S.rest).1) tb mb M (k+6) T _ hM hS.up ) ?_)
     rintro _ T8 UJ
     refine RD.fin<|ae 2 [] λ _=>RN.draw [6] []<|ag [] [0,1,5,2,3,4] (ow 2 5++[.own 0])<|RD.one 6 (RDO.ct [] [0] [0] (mF t t.j ((cC (ao t.S M t.i) (ao t.S M t.j) (cB (t.S.bods.getD (t.S.bo+((t.i).toNat)) dB).sh (⟨(ao t.S M t.i).px,(ao t.S M t.i).py⟩:V2) (t.S.bods.getD (t.S.bo+((t.j).toNat)) dB).sh (⟨(ao t.S M t.j).px,(ao t.S M t.j).py⟩:V2)).1 t.S.rest).2) tb mb (dP t t.i ((cC (ao t.S M t.i) (ao t.S M t.j) (cB (t.S.bods.getD (t.S.bo+((t.i).toNat)) dB).sh (⟨(ao t.S M t.i).px,(ao t.S M t.i).py⟩:V2) (t.S.bods.getD (t.S.bo+((t.j).toNat)) dB).sh (⟨(ao t.S M t.j).px,(ao t.S M t.j).py⟩:V2)).1 t.S.rest).1) M) (k+2) T8 _ UJ hS.up ) ?_)
     rintro _ TG RC
     refine RD.fin<|ae 2 [] λ _=>RN.draw [21] []<|ag [] [0,4,8,14,1,5,9,15,2,6,10,16,3,7,11,17,18,19,20] (ow 0 19)<|RD.cp [] 12 (λ X_=>(cO t.S t.i _ hS.toSetN)) ?_
     have hb12:=cN hS.toSetN t.i
     refine aG [] [13] [.nw] [aU ((af t.S t.i)+6)]<|RD.one 21 (RDO.ct [] [] [0] (aj ((af t.S t.i)+6) (i64.wrap (t.j+1)) RC) ?_)
     rintro _ To So
     refine RD.fin<|ae 1 [] λ _=>RN.draw [21] []<|ag [] [0,4,8,14,1,5,9,15,2,6,10,16,3,7,11,17,18,19,20] (ow 0 19)<|RD.cp [] 12 (λ X_=>(cO t.S t.j _ hS.toSetN)) ?_
     have hb15:=cN hS.toSetN t.j
     refine aG [] [13] [.nw] [aU ((af t.S t.j)+6)]<|RD.one 21 (RDO.ct [] [] [0] (aj ((af t.S t.j)+6) (i64.wrap (t.i+1)) So) ?_)
     rintro _ TF Ub
     refine RD.fin<|RN.ret [] [0] [0] (v:=.tuple #[]) (H':=(ap [(tb,.lit (Stp.l t mb) 275 (0,0))] [TF])) ?_
     refine⟨TF,rfl,?_⟩
     have e:dV t M=(((dP t t.j ((cC (ao t.S M t.i) (ao t.S M t.j) (cB (t.S.bods.getD (t.S.bo+((t.i).toNat)) dB).sh (⟨(ao t.S M t.i).px,(ao t.S M t.i).py⟩:V2) (t.S.bods.getD (t.S.bo+((t.j).toNat)) dB).sh (⟨(ao t.S M t.j).px,(ao t.S M t.j).py⟩:V2)).1 t.S.rest).2) (dP t t.i ((cC (ao t.S M t.i) (ao t.S M t.j) (cB (t.S.bods.getD (t.S.bo+((t.i).toNat)) dB).sh (⟨(ao t.S M t.i).px,(ao t.S M t.i).py⟩:V2) (t.S.bods.getD (t.S.bo+((t.j).toNat)) dB).sh (⟨(ao t.S M t.j).px,(ao t.S M t.j).py⟩:V2)).1 t.S.rest).1) M)).set ((af t.S t.i)+6) (i64.wrap (t.j+1))).set ((af t.S t.j)+6) (i64.wrap (t.i+1))):=by
      unfold dV
      rw[if_pos (show 0 <= t.i /\ t.i<t.S.nb from h1),if_pos (show 0 <= t.j /\ t.j<t.S.nb from h2),if_pos (show (sT t M).2=true from h7)]
      first|done|rfl
     rw[e]
     exact Ub.weak (by omega)
    ·refine ae 1 [] λ _=>RN.ret [] [3] [0] (v:=.tuple #[]) (H':=(ap [(tb,.lit (Stp.l t mb) 275 (0,0))] [T])) ?_
     refine⟨T,rfl,?_⟩
     have e:dV t M=M:=by
      unfold dV
      rw[if_pos (show 0 <= t.i /\ t.i<t.S.nb from h1),if_pos (show 0 <= t.j /\ t.j<t.S.nb from h2),if_neg (show ¬ ((sT t M).2=true) from h7)]
      first|done|rfl
     rw[e]
     exact hM.weak (by omega)
   ·intro Xo
    refine fQ 12 13 ?_ ?_
    ·refine RDO.ev [] [] λ n19=>RD.one 13 (RDO.ev [] [] λ XZ=>?_)
     refine RD.one 14 (RDO.ev [] (ow 1 5) λ _=>?_)
     refine RD.one 15 (RDO.ev [] (ow 0 5) λ _=>?_)
     exact Xo ⟨n19,XZ⟩ [0,1,2] [0]
    ·refine RDO.ev [] [] λ Rf=>RD.one 12 (RDO.ev [] [] λ n22=>?_)
     refine RD.one 14 (RDO.ev [] (ow 0 5) λ _=>?_)
     refine RD.one 15 (RDO.ev [] (ow 1 5) λ _=>?_)
     exact Xo ⟨n22,Rf⟩ [1,0,2] [0]
  ·refine ae 1 [] λ _=>RN.ret [] [0] [0] (v:=.tuple #[]) (H':=(ap [(tb,.lit (Stp.l t mb) 275 (0,0))] [T])) ?_
   refine⟨T,rfl,?_⟩
   have e:dV t M=M:=by
    unfold dV
    rw[if_pos (show 0 <= t.i /\ t.i<t.S.nb from h1),if_neg (show ¬ (0 <= t.j /\ t.j<t.S.nb) from h2)]
    first|done|rfl
   rw[e]
   exact hM.weak (by omega)
 ·refine ae 11 [] λ _=>RN.ret [] [0] [0] (v:=.tuple #[]) (H':=(ap [(tb,.lit (Stp.l t mb) 275 (0,0))] [T])) ?_
  refine⟨T,rfl,?_⟩
  have e:dV t M=M:=by
   unfold dV
   rw[if_neg (show ¬ (0 <= t.i /\ t.i<t.S.nb) from h1)]
   first|done|rfl
  rw[e]
  exact hM.weak (by omega)
theorem C3(t:Stp)  (tb mb:Nat) (M:MemS) (k:Nat) (T F:HL) (hM:MemH mb M (k+1) T) (hS:SetIn F t.S) (hj:0 <= t.j /\ t.j<t.S.nb):Sp Tryz.prog 195 #[vP tb 0] (ap [(tb,.lit (Stp.l t mb) 275 (0,0))] [T]) F (λ u H'=>∃x,H'=ap [(tb,.lit (Stp.l t mb) 275 (0,0))] [x] /\ (MemH mb (eZ t M) k x)):=by
 have hp:=hS.pl
 have hn:=hS.nb
 have hr:=hS.room
 refine Sp.run Tryz.func195 rfl (mc hS.blk mn) (A:=[(tb,.lit (Stp.l t mb) 275 (0,0))]) (Ts:=[T]) rfl λ w0=>?_
 refine ae 2 [] λ _=>RN.draw [] []<|ag [] [0,4,1,5,2,6,3,7,8,9] [.own 0,.own 0]<|RD.em (t.i=t.j) 14 (λ h1=>?_) λ h1=>?_
 ·refine ag [] [10,11,12,13,14,15,16,17] []<|RD.fin<|ae 2 [] λ _=>RN.ret [] [0] [0] (v:=.tuple #[]) (H':=(ap [(tb,.lit (Stp.l t mb) 275 (0,0))] [T])) ?_
  refine⟨T,rfl,?_⟩
  have e:eZ t M=M:=by
   unfold eZ
   rw[if_pos (show t.i=t.j from h1)]
   first|done|rfl
  rw[e]
  exact hM.weak (by omega)
 ·refine ag [] [10,11,12,13,14] [.own 0]<|RD.cp [] 15 (λ X_=>(js t t.i tb mb _ (jH 0) hS.up.up))<|ag [] [16,17] []<|RD.fin<|ae 1 [] λ _=>RN.en (movP t.S t.i) 22 (λ h2=>?_) λ h2=>?_
  ·have:=movP.has h2
   refine ae 4 [] λ _=>RN.draw [14,15] []<|ag [] [0,1,6,7,2,8,3,9,4,10] [.own 0,.own 0]<|RD.cp [] 5 (λ X_=>(fE t t.i tb mb M _ T _ (jH 0) hS.up.up hM (aS 0) (movP.has h2)))<|RD.cp [] 11 (λ X_=>(fE t t.j tb mb M _ T _ (jH 0) hS.up.up hM (aS 0) hj))<|jU (σ:=Nat × Nat) (λ ⟨n3,n4⟩=>⟨[(0,vP tb 0),(2,vP (n3+0) 0),(3,vP (n4+0) 0)],[((n4+0),.lit [vI ((ao t.S M t.j).px),vI ((ao t.S M t.j).py),vI ((ao t.S M t.j).vx),vI ((ao t.S M t.j).vy),vI ((ao t.S M t.j).inv)] 76 (0,0)),((n3+0),.lit [vI ((ao t.S M t.i).px),vI ((ao t.S M t.i).py),vI ((ao t.S M t.i).vx),vI ((ao t.S M t.i).vy),vI ((ao t.S M t.i).inv)] 76 (0,0)),(tb,.lit (Stp.l t mb) 275 (0,0))],[T],True,0⟩) ?_ ?_
   ·rintro⟨n3,n4⟩
    refine ae 2 [] λ _=>RN.draw [] []<|aG [] [0,5,12,14,16,21,28,30,1,6,13,15,17,22,29,2,7,18,23,3,8,19,24,4,20,9,25,10,26,11,27] [.own 1,.own 1,.own 1,.own 1,.own 0,.own 0,.own 2,.own 2,.own 2,.own 2,.ix ((t.i).toNat),.ix ((t.j).toNat),.rorow 0 (t.S.bo+((t.i).toNat)) 0,.rorow 0 (t.S.bo+((t.i).toNat)) 1,.rorow 0 (t.S.bo+((t.j).toNat)) 0,.rorow 0 (t.S.bo+((t.j).toNat)) 1] [((t.S.bo*9+((t.j).toNat)*9)+1)=(t.S.bo+((t.j).toNat))*9+1 /\ (t.S.bo+((t.j).toNat))<t.S.bR,(t.S.bo*9+((t.j).toNat)*9)=(t.S.bo+((t.j).toNat))*9+0 /\ (t.S.bo+((t.j).toNat))<t.S.bR,((t.S.bo*9+((t.i).toNat)*9)+1)=(t.S.bo+((t.i).toNat))*9+1 /\ (t.S.bo+((t.i).toNat))<t.S.bR,(t.S.bo*9+((t.i).toNat)*9)=(t.S.bo+((t.i).toNat))*9+0 /\ (t.S.bo+((t.i).toNat))<t.S.bR,t.j=(((t.j).toNat:Nat):Int) /\ (t.j).toNat<t.S.nb,t.i=(((t.i).toNat:Nat):Int) /\ (t.i).toNat<t.S.nb]<|RD.cp [] 31 (λ X_=>(uY (t.S.bods.getD (t.S.bo+((t.i).toNat)) dB).sh (⟨(ao t.S M t.i).px,(ao t.S M t.i).py⟩:V2) (⟨(ao t.S M t.i).vx,(ao t.S M t.i).vy⟩:V2) (t.S.bods.getD (t.S.bo+((t.j).toNat)) dB).sh (⟨(ao t.S M t.j).px,(ao t.S M t.j).py⟩:V2) (⟨0,0⟩:V2) _ ((hS.shp ((t.i).toNat) (by omega)).up.up) ((hS.shp ((t.j).toNat) (by omega)).up.up)))<|ag [] [32] []<|RD.fin<|ae 8 [.own 2] λ _=>RN.cp (aw 5 hM (ar 0))<|ae 3 [] λ _=>RN.em (mG (t.S.bods.getD (t.S.bo+((t.i).toNat)) dB).sh (⟨(ao t.S M t.i).px,(ao t.S M t.i).py⟩:V2) (⟨(ao t.S M t.i).vx,(ao t.S M t.i).vy⟩:V2) (t.S.bods.getD (t.S.bo+((t.j).toNat)) dB).sh (⟨(ao t.S M t.j).px,(ao t.S M t.j).py⟩:V2) (⟨0,0⟩:V2)<M.get 5) 73 (λ h5=>?_) λ h5=>?_
    ·refine ae 7 [.own 2] λ _=>RN.ct [] [0] (aj 5 (mG (t.S.bods.getD (t.S.bo+((t.i).toNat)) dB).sh (⟨(ao t.S M t.i).px,(ao t.S M t.i).py⟩:V2) (⟨(ao t.S M t.i).vx,(ao t.S M t.i).vy⟩:V2) (t.S.bods.getD (t.S.bo+((t.j).toNat)) dB).sh (⟨(ao t.S M t.j).px,(ao t.S M t.j).py⟩:V2) (⟨0,0⟩:V2)) hM) ?_
     rintro _ T6 WW
     refine ae 1 [] λ _=>RN.ret [] [2] [0] (v:=.tuple #[]) (H':=(ap [(tb,.lit (Stp.l t mb) 275 (0,0))] [T6])) ?_
     refine⟨T6,rfl,?_⟩
     have e:eZ t M=(M.set 5 (mG (t.S.bods.getD (t.S.bo+((t.i).toNat)) dB).sh (⟨(ao t.S M t.i).px,(ao t.S M t.i).py⟩:V2) (⟨(ao t.S M t.i).vx,(ao t.S M t.i).vy⟩:V2) (t.S.bods.getD (t.S.bo+((t.j).toNat)) dB).sh (⟨(ao t.S M t.j).px,(ao t.S M t.j).py⟩:V2) (⟨0,0⟩:V2))):=by
      unfold eZ
      rw[if_neg (show ¬ (t.i=t.j) from h1),if_pos (show movP t.S t.i from h2),if_pos (show sU t M<M.get 5 from h5)]
      first|done|rfl
     rw[e]
     exact WW.weak (by omega)
    ·refine ae 2 [] λ _=>RN.ret [] [2] [0] (v:=.tuple #[]) (H':=(ap [(tb,.lit (Stp.l t mb) 275 (0,0))] [T])) ?_
     refine⟨T,rfl,?_⟩
     have e:eZ t M=M:=by
      unfold eZ
      rw[if_neg (show ¬ (t.i=t.j) from h1),if_pos (show movP t.S t.i from h2),if_neg (show ¬ (sU t M<M.get 5) from h5)]
      first|done|rfl
     rw[e]
     exact hM.weak (by omega)
   ·intro U5
    refine fQ 12 13 ?_ ?_
    ·refine RDO.ev [] [] λ n9=>RD.one 13 (RDO.ev [] [] λ Sg=>?_)
     refine RD.one 14 (RDO.ev [] (ow 1 5) λ _=>?_)
     refine RD.one 15 (RDO.ev [] (ow 0 5) λ _=>?_)
     exact U5 ⟨n9,Sg⟩ [0,1,2] [0]
    ·refine RDO.ev [] [] λ n11=>RD.one 12 (RDO.ev [] [] λ Xm=>?_)
     refine RD.one 14 (RDO.ev [] (ow 0 5) λ _=>?_)
     refine RD.one 15 (RDO.ev [] (ow 1 5) λ _=>?_)
     exact U5 ⟨Xm,n11⟩ [1,0,2] [0]
  ·refine ae 1 [] λ _=>RN.ret [] [0] [0] (v:=.tuple #[]) (H':=(ap [(tb,.lit (Stp.l t mb) 275 (0,0))] [T])) ?_
   refine⟨T,rfl,?_⟩
   have e:eZ t M=M:=by
    unfold eZ
    rw[if_neg (show ¬ (t.i=t.j) from h1),if_neg (show ¬ (movP t.S t.i) from h2)]
    first|done|rfl
   rw[e]
   exact hM.weak (by omega)
theorem C4(t:Stp)  (tb mb:Nat) (M:MemS) (k:Nat) (T F:HL) (hM:MemH mb M (k+8) T) (hS:SetIn F t.S) :Sp Tryz.prog 153 #[vP tb 0] (ap [(tb,.lit (Stp.l t mb) 275 (0,0))] [T]) F (λ u H'=>∃x,H'=ap [(tb,.lit (Stp.l t mb) 275 (0,0))] [x] /\ (MemH mb (dZ t M) k x)):=by
 have hp:=hS.pl
 have hn:=hS.nb
 have hr:=hS.room
 refine Sp.run Tryz.func153 rfl (mc hS.blk mn) (A:=[(tb,.lit (Stp.l t mb) 275 (0,0))]) (Ts:=[T]) rfl λ w0=>?_
 refine ae 8 [.own 0] λ _=>RN.cp (qo t t.j tb mb _ (az 0))<|ae 2 [] λ _=>RN.em (0 <= t.j /\ t.j<t.S.nb) 7 (λ h1=>?_) λ h1=>?_
 ·refine ae 4 [] λ _=>RN.ct [0] [0] (C3 t tb mb M (k+7) T _ hM hS.up (by assumption)) ?_
  rintro _ T2 Sl
  refine ae 3 [] λ _=>RN.draw [11] []<|ag [] [0,4,1,5,2,6,3,7,8,9,10] [.own 0,.own 0]<|RD.one 11 (RDO.ct [] [] [0] (aj 3 (i64.wrap (t.j+1)) Sl) ?_)
  rintro _ T4 SX
  refine RD.fin<|ae 1 [] λ _=>RN.ret [] [0] [0] (v:=.tuple #[]) (H':=(ap [(tb,.lit (Stp.l t mb) 275 (0,0))] [T4])) ?_
  refine⟨T4,rfl,?_⟩
  have e:(dZ t M)=((eZ t M).set 3 (i64.wrap (t.j+1))):=by
   first|(simp only[dZ,fS,if_pos h1];try rfl;done)|rfl
  rw[e]
  exact SX.weak (by omega)
 ·refine ae 11 [.own 0] λ _=>RN.cp (js t t.i tb mb _ (az 0) hS.up)<|ae 2 [] λ _=>RN.em (movP t.S t.i) 27 (λ h6=>?_) λ h6=>?_
  ·have:=movP.has h6
   refine ae 3 [] λ _=>RN.ct [0] [0] (zh t tb mb M (k+4) T _ hM hS.up (by assumption)) ?_
   rintro _ T7 Sw
   refine ae 4 [] λ _=>RN.draw [] []<|ag [] [0,5,1,6,2,7,3,8,4,9,10,11] [.own 0,.own 0]<|RD.fin<|ae 1 [] λ _=>RN.em (i64.wrap (t.i+1)<(t.S.nb:Int)) 41 (λ h9=>?_) λ h9=>?_
   ·refine ae 2 [] λ _=>RN.draw [11] []<|ag [] [0,4,1,5,2,6,3,7,8,9,10] [.own 0,.own 0]<|RD.one 11 (RDO.ct [] [] [0] (aj 2 (i64.wrap (t.i+1)) Sw) ?_)
    rintro _ TG RC
    refine RD.fin<|ae 7 [.own 0] λ _=>RN.ct [] [0] (aj 3 0 RC) ?_
    rintro _ Xi YU
    refine ae 8 [.own 0] λ _=>RN.ct [] [0] (aj 5 1024 YU) ?_
    rintro _ Zg Uc
    refine ae 2 [] λ _=>RN.ret [] [0] [0] (v:=.tuple #[]) (H':=(ap [(tb,.lit (Stp.l t mb) 275 (0,0))] [Zg])) ?_
    refine⟨Zg,rfl,?_⟩
    have e:(dZ t M)=((((dk t M).set 2 (i64.wrap (t.i+1))).set 3 0).set 5 1024):=by
     first|(simp only[dZ,fS,if_neg h1,if_pos h6,if_pos h9];try rfl;done)|rfl
    rw[e]
    exact Uc.weak (by omega)
   ·refine ae 6 [] λ _=>RN.ct [0] [0] (bL t 6 0 tb mb (dk t M) (k+1) T7 _ Sw hS.up ) ?_
    rintro _ TF Ub
    refine ae 7 [.own 0] λ _=>RN.ct [] [0] (aj 5 0 Ub) ?_
    rintro _ ZI VX
    refine ae 1 [] λ _=>RN.ret [] [0] [0] (v:=.tuple #[]) (H':=(ap [(tb,.lit (Stp.l t mb) 275 (0,0))] [ZI])) ?_
    refine⟨ZI,rfl,?_⟩
    have e:(dZ t M)=((aL t 6 0 (dk t M)).set 5 0):=by
     first|(simp only[dZ,fS,if_neg h1,if_pos h6,if_neg h9];try rfl;done)|rfl
    rw[e]
    exact VX.weak (by omega)
  ·refine ae 5 [] λ _=>RN.draw [] []<|ag [] [0,5,1,6,2,7,3,8,4,9,10,11] [.own 0,.own 0]<|RD.fin<|ae 1 [] λ _=>RN.em (i64.wrap (t.i+1)<(t.S.nb:Int)) 41 (λ h20=>?_) λ h20=>?_
   ·refine ae 2 [] λ _=>RN.draw [11] []<|ag [] [0,4,1,5,2,6,3,7,8,9,10] [.own 0,.own 0]<|RD.one 11 (RDO.ct [] [] [0] (aj 2 (i64.wrap (t.i+1)) hM) ?_)
    rintro _ T21 W0
    refine RD.fin<|ae 7 [.own 0] λ _=>RN.ct [] [0] (aj 3 0 W0) ?_
    rintro _ T23 YT
    refine ae 8 [.own 0] λ _=>RN.ct [] [0] (aj 5 1024 YT) ?_
    rintro _ XV WZ
    refine ae 2 [] λ _=>RN.ret [] [0] [0] (v:=.tuple #[]) (H':=(ap [(tb,.lit (Stp.l t mb) 275 (0,0))] [XV])) ?_
    refine⟨XV,rfl,?_⟩
    have e:(dZ t M)=(((M.set 2 (i64.wrap (t.i+1))).set 3 0).set 5 1024):=by
     first|(simp only[dZ,fS,if_neg h1,if_neg h6,if_pos h20];try rfl;done)|rfl
    rw[e]
    exact WZ.weak (by omega)
   ·refine ae 6 [] λ _=>RN.ct [0] [0] (bL t 6 0 tb mb M (k+5) T _ hM hS.up ) ?_
    rintro _ Ux Sm
    refine ae 7 [.own 0] λ _=>RN.ct [] [0] (aj 5 0 Sm) ?_
    rintro _ XU Sk
    refine ae 1 [] λ _=>RN.ret [] [0] [0] (v:=.tuple #[]) (H':=(ap [(tb,.lit (Stp.l t mb) 275 (0,0))] [XU])) ?_
    refine⟨XU,rfl,?_⟩
    have e:(dZ t M)=((aL t 6 0 M).set 5 0):=by
     first|(simp only[dZ,fS,if_neg h1,if_neg h6,if_neg h20];try rfl;done)|rfl
    rw[e]
    exact Sk.weak (by omega)
theorem FH(i j n r:Int)(q1 q2:Nat)(F:HL)(h1q:(q1,.lit [vI n] 3 (0,0))∈F)(h2q:(q2,.lit [vI r] 3 (0,0))∈F):Sp Tryz.prog 193 #[vI i,vI j,vP q1 0,vP q2 0] [] F (λ u H'=>u=.tuple #[vI ((dt i j n r).1),vI ((dt i j n r).2.1),vI ((dt i j n r).2.2)] /\ H'=[]):=by
 refine Sp.run Tryz.func193 rfl (mc h1q (mc h2q mn)) (A:=[]) (Ts:=[]) rfl λ w0=>?_
 refine ae 18 [.ro 0] λ _=>RN.em (i64.wrap (j+1)<n) 9 (λ h1=>?_) λ h1=>?_
 ·refine ae 12 [.ro 1] λ _=>RN.ret [] [] [] (v:=.tuple #[vI r,vI i,vI (i64.wrap (j+1))]) (H':=[]) ?_
  refine⟨?_,rfl⟩
  simp only[dt,if_pos h1]
 ·refine ae 10 [.ro 0] λ _=>RN.em (i64.wrap (i+2)<n) 18 (λ h2=>?_) λ h2=>?_
  ·refine ae 13 [.ro 1] λ _=>RN.ret [] [] [] (v:=.tuple #[vI r,vI (i64.wrap (i+1)),vI (i64.wrap (i+2))]) (H':=[]) ?_
   refine⟨?_,rfl⟩
   simp only[dt,if_neg h1,if_pos h2]
  ·refine ae 13 [.ro 1] λ _=>RN.ret [] [] [] (v:=.tuple #[vI (i64.wrap (r+1)),vI 0,vI 1]) (H':=[]) ?_
   refine⟨?_,rfl⟩
   simp only[dt,if_neg h1,if_neg h2]
theorem uZ(t:Stp)  (tb mb:Nat) (M:MemS) (k:Nat) (T F:HL) (hM:MemH mb M (k+14) T) (hS:SetIn F t.S) :Sp Tryz.prog 152 #[vP tb 0] (ap [(tb,.lit (Stp.l t mb) 275 (0,0))] [T]) F (λ u H'=>∃x,H'=ap [(tb,.lit (Stp.l t mb) 275 (0,0))] [x] /\ (MemH mb (bT t M) k x)):=by
 have hp:=hS.pl
 have hn:=hS.nb
 have hr:=hS.room
 refine Sp.run Tryz.func152 rfl (mc hS.blk mn) (A:=[(tb,.lit (Stp.l t mb) 275 (0,0))]) (Ts:=[T]) rfl λ w0=>?_
 refine ae 1 [] λ _=>RN.draw [13,14] []<|ag [] [0,6,1,7,2,8,3,9,4,5] [.own 0,.own 0]<|RD.cp [] 10 (λ X_=>(aw 4 hM (aS 0)))<|jU (σ:=Nat × Nat) (λ ⟨n1,n2⟩=>⟨[(0,vP tb 0),(2,vP (n1+0) 0),(3,vP (n2+0) 0)],[((n2+0),.lit [vI (M.get 4)] 3 (0,0)),((n1+0),.lit [vI (t.S.nb:Int)] 3 (0,0)),(tb,.lit (Stp.l t mb) 275 (0,0))],[T],True,0⟩) ?_ ?_
 ·rintro⟨n1,n2⟩
  refine ae 3 [] λ _=>RN.draw [] []<|ag [] [0,1,2] [.own 1]<|RD.em ((t.S.nb:Int)<2) 20 (λ h3=>?_) λ h3=>?_
  ·refine ag [] [3,4,5,6,7,8,9,10] []<|RD.fin<|ae 5 [] λ _=>RN.ct [2] [0] (bL t 5 0 tb mb M (k+11) T _ hM hS.up ) ?_
   rintro _ T4 SX
   refine ae 8 [.own 0] λ _=>RN.ct [] [0] (aj 5 1024 SX) ?_
   rintro _ T6 WW
   refine ae 2 [] λ _=>RN.ret [] [0] [0] (v:=.tuple #[]) (H':=(ap [(tb,.lit (Stp.l t mb) 275 (0,0))] [T6])) ?_
   refine⟨T6,rfl,?_⟩
   have e:(bT t M)=((aL t 5 0 M).set 5 1024):=by
    first|(simp only[bT,if_pos h3];try rfl;done)|rfl
   rw[e]
   exact WW.weak (by omega)
  ·refine ag [] [3,4,5,6,7,8,9,10] [.own 0,.own 2]<|RD.fin<|ae 1 [] λ _=>RN.em (M.get 4 >= t.S.rounds) 28 (λ h8=>?_) λ h8=>?_
   ·refine ae 4 [] λ _=>RN.ct [2] [0] (bL t 5 0 tb mb M (k+11) T _ hM hS.up ) ?_
    rintro _ T9 R9
    refine ae 8 [.own 0] λ _=>RN.ct [] [0] (aj 5 1024 R9) ?_
    rintro _ Of Q6
    refine ae 2 [] λ _=>RN.ret [] [0] [0] (v:=.tuple #[]) (H':=(ap [(tb,.lit (Stp.l t mb) 275 (0,0))] [Of])) ?_
    refine⟨Of,rfl,?_⟩
    have e:(bT t M)=((aL t 5 0 M).set 5 1024):=by
     first|(simp only[bT,if_neg h3,if_pos h8];try rfl;done)|rfl
    rw[e]
    exact Q6.weak (by omega)
   ·refine ae 6 [] λ _=>RN.ct [2] [0] (zo t tb mb M (k+4) T _ hM hS.up ) ?_
    rintro _ To So
    refine ae 9 [] λ _=>RN.draw [14] [0,2]<|ag [0,2] [0,1,5,2,6,3,7,4,8] [.own 0,.own 0]<|RD.cp [0,2] 9 (λ X_=>(FH t.i t.j (t.S.nb:Int) (M.get 4) (n1+0) (n2+0) _ (jH 2) (jH 1)))<|ag [0,2] [10,11,12,13] []<|RD.one 14 (RDO.ev [0,2] [.own 1] λ _=>?_)
    refine ag [0,2] [15,16] []<|RD.fin<|ae 2 [] λ _=>RN.draw [5] []<|ag [] [0,4,1,2,3] [.own 1,.own 0]<|RD.one 5 (RDO.ct [] [] [0] (aj 4 ((dt t.i t.j (t.S.nb:Int) (M.get 4)).1) So) ?_)
    rintro _ Sz Sn
    refine RD.fin<|ae 8 [.own 0] λ _=>RN.ct [] [0] (aj 2 ((dt t.i t.j (t.S.nb:Int) (M.get 4)).2.1) Sn) ?_
    rintro _ Sy SP
    refine ae 8 [.own 0] λ _=>RN.ct [] [0] (aj 3 ((dt t.i t.j (t.S.nb:Int) (M.get 4)).2.2) SP) ?_
    rintro _ Uh VW
    refine ae 1 [] λ _=>RN.ret [] [0] [0] (v:=.tuple #[]) (H':=(ap [(tb,.lit (Stp.l t mb) 275 (0,0))] [Uh])) ?_
    refine⟨Uh,rfl,?_⟩
    have e:(bT t M)=((((dV t M).set 4 ((dt t.i t.j (t.S.nb:Int) (M.get 4)).1)).set 2 ((dt t.i t.j (t.S.nb:Int) (M.get 4)).2.1)).set 3 ((dt t.i t.j (t.S.nb:Int) (M.get 4)).2.2)):=by
     first|(simp only[bT,if_neg h3,if_neg h8];try rfl;done)|rfl
    rw[e]
    exact VW.weak (by omega)
 ·intro Xn
  refine fQ 11 12 ?_ ?_
  ·refine RDO.ev [] [] λ n22=>RD.one 12 (RDO.ev [] [] λ n23=>?_)
   refine RD.one 13 (RDO.ev [] [.own 1] λ _=>?_)
   refine RD.one 14 (RDO.ev [] [.own 0] λ _=>?_)
   exact Xn ⟨n22,n23⟩ [0,1,2] [0]
  ·refine RDO.ev [] [] λ n24=>RD.one 11 (RDO.ev [] [] λ n25=>?_)
   refine RD.one 13 (RDO.ev [] [.own 0] λ _=>?_)
   refine RD.one 14 (RDO.ev [] [.own 1] λ _=>?_)
   exact Xn ⟨n25,n24⟩ [1,0,2] [0]
theorem FI(t:Stp)  (tb mb:Nat) (M:MemS) (k:Nat) (T F:HL) (hM:MemH mb M (k+14) T) (hS:SetIn F t.S) :Sp Tryz.prog 155 #[vP tb 0] (ap [(tb,.lit (Stp.l t mb) 275 (0,0))] [T]) F (λ u H'=>∃x,H'=ap [(tb,.lit [.iface 96 (vP mb 0),vI t.S.players,vS t.S.bb (t.S.bo*9) t.S.nb t.S.bc,vI t.S.box.x0,vI t.S.box.y0,vI t.S.box.x1,vI t.S.box.y1,.slice t.S.rA t.S.rn t.S.rc,.slice t.S.dA t.S.dn t.S.dc,vI t.S.fog,vI t.S.g.x,vI t.S.g.y,vI t.S.push,vI t.S.drag,vI t.S.rest,vI t.S.rounds,vI t.S.fuel,.slice t.cA t.cn t.cc,vI t.e0,vI t.e1,vI t.e2,vI t.version,vS t.ib (t.io*3) t.ni t.ic,vI t.i,vI t.j,.bool (fJ t),vI t.f0,vI t.f1,vI t.f2,vI t.f3,.bool t.emitted] 275 (0,0))] [x] /\ (MemH mb (dG t M) k x)):=by
 have hp:=hS.pl
 have hn:=hS.nb
 have hr:=hS.room
 refine Sp.run Tryz.func155 rfl (mc hS.blk mn) (A:=[(tb,.lit (Stp.l t mb) 275 (0,0))]) (Ts:=[T]) rfl λ w0=>?_
 refine ae 2 [] λ _=>RN.draw [] []<|ag [] [0,4,1,5,2,6,3,7] (ow 0 17)<|RD.cp [] 8 (λ X_=>(cO t.S t.i _ hS.toSetN)) ?_
 have UI:=cN hS.toSetN t.i
 refine ag [] [9] []<|RD.fin<|ae 7 [] λ _=>RN.em (af t.S t.i >= 0) 15 (λ h2=>?_) λ h2=>?_
 ·refine ai 15 [.own 0,.nw] [aU ((af t.S t.i)+2)] λ _=>RN.cp (aw ((af t.S t.i)+2) hM (ar 0))<|ae 2 [] λ _=>RN.em (M.get ((af t.S t.i)+2)=0) 24 (λ h3=>?_) λ h3=>?_
  ·refine ai 6 [.own 0,.nw] [aU ((af t.S t.i)+3)] λ _=>RN.cp (aw ((af t.S t.i)+3) hM (ar 0))<|ae 4 [] λ _=>RN.em (M.get ((af t.S t.i)+3)=0) 33 (λ h4=>?_) λ h4=>?_
   ·refine ai 8 [.own 0,.nw] [aU ((af t.S t.i)+7)] λ _=>RN.cp (aw ((af t.S t.i)+7) hM (ar 0))<|ai 13 [.own 0,.nw] [aU ((af t.S t.i)+7)] λ _=>RN.ct [] [0] (aj ((af t.S t.i)+7) (if 1000<i64.wrap ((M.get ((af t.S t.i)+7))+1) then 1000 else i64.wrap ((M.get ((af t.S t.i)+7))+1)) hM) ?_
    rintro _ T5 RL
    refine ae 4 [] λ _=>RN.draw [] []<|ag [] [0,5,1,6,2,7,3,8,4,9,10,11] [.own 0,.own 0]<|RD.fin<|ae 1 [] λ _=>RN.em (i64.wrap (t.i+1)<(t.S.nb:Int)) 62 (λ h7=>?_) λ h7=>?_
    ·refine ae 2 [] λ _=>RN.draw [11] []<|ag [] [0,4,1,5,2,6,3,7,8,9,10] [.own 0,.own 0]<|RD.one 11 (RDO.ct [] [] [0] (aj 2 (i64.wrap (t.i+1)) RL) ?_)
     rintro _ T8 UJ
     refine RD.fin<|ae 1 [] λ _=>RN.ret [] [0] [0] (v:=.tuple #[]) (H':=(ap [(tb,.lit (Stp.l t mb) 275 (0,0))] [T8])) ?_
     refine⟨T8,by simp only[fJ,Stp.l,if_pos h2,if_pos h3,if_pos h4,if_pos h7],?_⟩
     have e:(dG t M)=((M.set ((af t.S t.i)+7) (if 1000<i64.wrap ((M.get ((af t.S t.i)+7))+1) then 1000 else i64.wrap ((M.get ((af t.S t.i)+7))+1))).set 2 (i64.wrap (t.i+1))):=by
      simp only[dG,ge,hO,if_pos h2,if_pos h3,if_pos h4,if_pos h7]
     rw[e]
     exact UJ.weak (by omega)
    ·refine ae 12 [.own 0] λ _=>RN.draw [12] []<|ag [] [0,4,1,5,2,6,3,7,10,11] [.own 0,.own 0]<|RD.cp [] 8 (λ X_=>(aw 0 RL (aS 0)))<|ag [] [9] []<|RD.one 12 (RDO.ct [] [] [0] (aj 0 (i64.wrap (((M.set ((af t.S t.i)+7) (if 1000<i64.wrap ((M.get ((af t.S t.i)+7))+1) then 1000 else i64.wrap ((M.get ((af t.S t.i)+7))+1))).get 0)+1)) RL) ?_)
     rintro _ TG RC
     refine RD.fin<|ae 7 [] λ _=>RN.loop (σ:=Nat × HL) (λ ⟨n,T_⟩=>⟨[(0,vP tb 0),(4,vI ((n+1:Nat):Int))],[(tb,.lit [.iface 96 (vP mb 0),vI t.S.players,vS t.S.bb (t.S.bo*9) t.S.nb t.S.bc,vI t.S.box.x0,vI t.S.box.y0,vI t.S.box.x1,vI t.S.box.y1,.slice t.S.rA t.S.rn t.S.rc,.slice t.S.dA t.S.dn t.S.dc,vI t.S.fog,vI t.S.g.x,vI t.S.g.y,vI t.S.push,vI t.S.drag,vI t.S.rest,vI t.S.rounds,vI t.S.fuel,.slice t.cA t.cn t.cc,vI t.e0,vI t.e1,vI t.e2,vI t.version,vS t.ib (t.io*3) t.ni t.ic,vI t.i,vI t.j,.bool true,vI t.f0,vI t.f1,vI t.f2,vI t.f3,.bool t.emitted] 275 (0,0))],[T_],n <= 10 /\ MemH mb (cK ((M.set ((af t.S t.i)+7) (if 1000<i64.wrap ((M.get ((af t.S t.i)+7))+1) then 1000 else i64.wrap ((M.get ((af t.S t.i)+7))+1))).set 0 (i64.wrap (((M.set ((af t.S t.i)+7) (if 1000<i64.wrap ((M.get ((af t.S t.i)+7))+1) then 1000 else i64.wrap ((M.get ((af t.S t.i)+7))+1))).get 0)+1))) n) (k+10-n) T_,10-n⟩) (0,TG) [0] [0] (⟨by omega,RC.weak (by omega)⟩) ?_
     rintro⟨n,T_⟩ ⟨Yn,Tk⟩ U2
     refine ae 7 [] λ _=>RN.em (((n+1:Nat):Int) <= 10) 92 (λ SZ=>?_) λ SZ=>?_
     ·obtain⟨e_,RU⟩:∃e,k+10-n=e+1:=⟨k+9-n,by omega⟩
      have Ua:MemH mb (cK ((M.set ((af t.S t.i)+7) (if 1000<i64.wrap ((M.get ((af t.S t.i)+7))+1) then 1000 else i64.wrap ((M.get ((af t.S t.i)+7))+1))).set 0 (i64.wrap (((M.set ((af t.S t.i)+7) (if 1000<i64.wrap ((M.get ((af t.S t.i)+7))+1) then 1000 else i64.wrap ((M.get ((af t.S t.i)+7))+1))).get 0)+1))) n) (e_+1) T_:=RU ▸ Tk
      refine ae 11 [.own 0] λ _=>RN.ct [] [0] (aj ((n+1:Nat):Int) 0 Ua) ?_
      rintro _ Sz Sn
      refine ai 8 [.nw] [aU (((n+1:Nat):Int)+1)] λ _=>?_
      refine U2 (n+1,Sz) [0] [0] ?_
      try dsimp only
      refine⟨⟨by omega,Sn.cast (by rw[cK]) (by omega)⟩,by omega⟩
     ·refine ae 5 [] λ _=>RN.ret [] [0] [0] (v:=.tuple #[]) (H':=(ap [(tb,.lit [.iface 96 (vP mb 0),vI t.S.players,vS t.S.bb (t.S.bo*9) t.S.nb t.S.bc,vI t.S.box.x0,vI t.S.box.y0,vI t.S.box.x1,vI t.S.box.y1,.slice t.S.rA t.S.rn t.S.rc,.slice t.S.dA t.S.dn t.S.dc,vI t.S.fog,vI t.S.g.x,vI t.S.g.y,vI t.S.push,vI t.S.drag,vI t.S.rest,vI t.S.rounds,vI t.S.fuel,.slice t.cA t.cn t.cc,vI t.e0,vI t.e1,vI t.e2,vI t.version,vS t.ib (t.io*3) t.ni t.ic,vI t.i,vI t.j,.bool true,vI t.f0,vI t.f1,vI t.f2,vI t.f3,.bool t.emitted] 275 (0,0))] [T_])) ?_
      refine⟨T_,by simp only[fJ,Stp.l,if_pos h2,if_pos h3,if_pos h4,if_neg h7,if_neg SZ],?_⟩
      have en:n=10:=by omega
      have e:(dG t M)=(cK ((M.set ((af t.S t.i)+7) (if 1000<i64.wrap ((M.get ((af t.S t.i)+7))+1) then 1000 else i64.wrap ((M.get ((af t.S t.i)+7))+1))).set 0 (i64.wrap (((M.set ((af t.S t.i)+7) (if 1000<i64.wrap ((M.get ((af t.S t.i)+7))+1) then 1000 else i64.wrap ((M.get ((af t.S t.i)+7))+1))).get 0)+1))) n):=by
       rw[en]
       simp only[dG,ge,hO,if_pos h2,if_pos h3,if_pos h4,if_neg h7,if_neg SZ]
      rw[e]
      exact Tk.weak (by omega)
   ·refine ai 11 [.own 0,.nw] [aU ((af t.S t.i)+7)] λ _=>RN.ct [] [0] (aj ((af t.S t.i)+7) 0 hM) ?_
    rintro _ Sy SP
    refine ae 4 [] λ _=>RN.draw [] []<|ag [] [0,5,1,6,2,7,3,8,4,9,10,11] [.own 0,.own 0]<|RD.fin<|ae 1 [] λ _=>RN.em (i64.wrap (t.i+1)<(t.S.nb:Int)) 62 (λ UM=>?_) λ UM=>?_
    ·refine ae 2 [] λ _=>RN.draw [11] []<|ag [] [0,4,1,5,2,6,3,7,8,9,10] [.own 0,.own 0]<|RD.one 11 (RDO.ct [] [] [0] (aj 2 (i64.wrap (t.i+1)) SP) ?_)
     rintro _ Uy VV
     refine RD.fin<|ae 1 [] λ _=>RN.ret [] [0] [0] (v:=.tuple #[]) (H':=(ap [(tb,.lit (Stp.l t mb) 275 (0,0))] [Uy])) ?_
     refine⟨Uy,by simp only[fJ,Stp.l,if_pos h2,if_pos h3,if_neg h4,if_pos UM],?_⟩
     have e:(dG t M)=((M.set ((af t.S t.i)+7) 0).set 2 (i64.wrap (t.i+1))):=by
      simp only[dG,ge,hO,if_pos h2,if_pos h3,if_neg h4,if_pos UM]
     rw[e]
     exact VV.weak (by omega)
    ·refine ae 12 [.own 0] λ _=>RN.draw [12] []<|ag [] [0,4,1,5,2,6,3,7,10,11] [.own 0,.own 0]<|RD.cp [] 8 (λ X_=>(aw 0 SP (aS 0)))<|ag [] [9] []<|RD.one 12 (RDO.ct [] [] [0] (aj 0 (i64.wrap (((M.set ((af t.S t.i)+7) 0).get 0)+1)) SP) ?_)
     rintro _ Xh VU
     refine RD.fin<|ae 7 [] λ _=>RN.loop (σ:=Nat × HL) (λ ⟨n,T_⟩=>⟨[(0,vP tb 0),(4,vI ((n+1:Nat):Int))],[(tb,.lit [.iface 96 (vP mb 0),vI t.S.players,vS t.S.bb (t.S.bo*9) t.S.nb t.S.bc,vI t.S.box.x0,vI t.S.box.y0,vI t.S.box.x1,vI t.S.box.y1,.slice t.S.rA t.S.rn t.S.rc,.slice t.S.dA t.S.dn t.S.dc,vI t.S.fog,vI t.S.g.x,vI t.S.g.y,vI t.S.push,vI t.S.drag,vI t.S.rest,vI t.S.rounds,vI t.S.fuel,.slice t.cA t.cn t.cc,vI t.e0,vI t.e1,vI t.e2,vI t.version,vS t.ib (t.io*3) t.ni t.ic,vI t.i,vI t.j,.bool true,vI t.f0,vI t.f1,vI t.f2,vI t.f3,.bool t.emitted] 275 (0,0))],[T_],n <= 10 /\ MemH mb (cK ((M.set ((af t.S t.i)+7) 0).set 0 (i64.wrap (((M.set ((af t.S t.i)+7) 0).get 0)+1))) n) (k+10-n) T_,10-n⟩) (0,Xh) [0] [0] (⟨by omega,VU.weak (by omega)⟩) ?_
     rintro⟨n,T_⟩ ⟨Yn,Tk⟩ mt25
     refine ae 7 [] λ _=>RN.em (((n+1:Nat):Int) <= 10) 92 (λ RO=>?_) λ RO=>?_
     ·obtain⟨e_,RU⟩:∃e,k+10-n=e+1:=⟨k+9-n,by omega⟩
      have Ua:MemH mb (cK ((M.set ((af t.S t.i)+7) 0).set 0 (i64.wrap (((M.set ((af t.S t.i)+7) 0).get 0)+1))) n) (e_+1) T_:=RU ▸ Tk
      refine ae 11 [.own 0] λ _=>RN.ct [] [0] (aj ((n+1:Nat):Int) 0 Ua) ?_
      rintro _ Ux Sm
      refine ai 8 [.nw] [aU (((n+1:Nat):Int)+1)] λ _=>?_
      refine mt25 (n+1,Ux) [0] [0] ?_
      try dsimp only
      refine⟨⟨by omega,Sm.cast (by rw[cK]) (by omega)⟩,by omega⟩
     ·refine ae 5 [] λ _=>RN.ret [] [0] [0] (v:=.tuple #[]) (H':=(ap [(tb,.lit [.iface 96 (vP mb 0),vI t.S.players,vS t.S.bb (t.S.bo*9) t.S.nb t.S.bc,vI t.S.box.x0,vI t.S.box.y0,vI t.S.box.x1,vI t.S.box.y1,.slice t.S.rA t.S.rn t.S.rc,.slice t.S.dA t.S.dn t.S.dc,vI t.S.fog,vI t.S.g.x,vI t.S.g.y,vI t.S.push,vI t.S.drag,vI t.S.rest,vI t.S.rounds,vI t.S.fuel,.slice t.cA t.cn t.cc,vI t.e0,vI t.e1,vI t.e2,vI t.version,vS t.ib (t.io*3) t.ni t.ic,vI t.i,vI t.j,.bool true,vI t.f0,vI t.f1,vI t.f2,vI t.f3,.bool t.emitted] 275 (0,0))] [T_])) ?_
      refine⟨T_,by simp only[fJ,Stp.l,if_pos h2,if_pos h3,if_neg h4,if_neg UM,if_neg RO],?_⟩
      have en:n=10:=by omega
      have e:(dG t M)=(cK ((M.set ((af t.S t.i)+7) 0).set 0 (i64.wrap (((M.set ((af t.S t.i)+7) 0).get 0)+1))) n):=by
       rw[en]
       simp only[dG,ge,hO,if_pos h2,if_pos h3,if_neg h4,if_neg UM,if_neg RO]
      rw[e]
      exact Tk.weak (by omega)
  ·refine ai 22 [.own 0,.nw] [aU ((af t.S t.i)+7)] λ _=>RN.ct [] [0] (aj ((af t.S t.i)+7) 0 hM) ?_
   rintro _ XU Sk
   refine ae 4 [] λ _=>RN.draw [] []<|ag [] [0,5,1,6,2,7,3,8,4,9,10,11] [.own 0,.own 0]<|RD.fin<|ae 1 [] λ _=>RN.em (i64.wrap (t.i+1)<(t.S.nb:Int)) 62 (λ Ue=>?_) λ Ue=>?_
   ·refine ae 2 [] λ _=>RN.draw [11] []<|ag [] [0,4,1,5,2,6,3,7,8,9,10] [.own 0,.own 0]<|RD.one 11 (RDO.ct [] [] [0] (aj 2 (i64.wrap (t.i+1)) Sk) ?_)
    rintro _ XT UK
    refine RD.fin<|ae 1 [] λ _=>RN.ret [] [0] [0] (v:=.tuple #[]) (H':=(ap [(tb,.lit (Stp.l t mb) 275 (0,0))] [XT])) ?_
    refine⟨XT,by simp only[fJ,Stp.l,if_pos h2,if_neg h3,if_pos Ue],?_⟩
    have e:(dG t M)=((M.set ((af t.S t.i)+7) 0).set 2 (i64.wrap (t.i+1))):=by
     simp only[dG,ge,hO,if_pos h2,if_neg h3,if_pos Ue]
    rw[e]
    exact UK.weak (by omega)
   ·refine ae 12 [.own 0] λ _=>RN.draw [12] []<|ag [] [0,4,1,5,2,6,3,7,10,11] [.own 0,.own 0]<|RD.cp [] 8 (λ X_=>(aw 0 Sk (aS 0)))<|ag [] [9] []<|RD.one 12 (RDO.ct [] [] [0] (aj 0 (i64.wrap (((M.set ((af t.S t.i)+7) 0).get 0)+1)) Sk) ?_)
    rintro _ XS WY
    refine RD.fin<|ae 7 [] λ _=>RN.loop (σ:=Nat × HL) (λ ⟨n,T_⟩=>⟨[(0,vP tb 0),(4,vI ((n+1:Nat):Int))],[(tb,.lit [.iface 96 (vP mb 0),vI t.S.players,vS t.S.bb (t.S.bo*9) t.S.nb t.S.bc,vI t.S.box.x0,vI t.S.box.y0,vI t.S.box.x1,vI t.S.box.y1,.slice t.S.rA t.S.rn t.S.rc,.slice t.S.dA t.S.dn t.S.dc,vI t.S.fog,vI t.S.g.x,vI t.S.g.y,vI t.S.push,vI t.S.drag,vI t.S.rest,vI t.S.rounds,vI t.S.fuel,.slice t.cA t.cn t.cc,vI t.e0,vI t.e1,vI t.e2,vI t.version,vS t.ib (t.io*3) t.ni t.ic,vI t.i,vI t.j,.bool true,vI t.f0,vI t.f1,vI t.f2,vI t.f3,.bool t.emitted] 275 (0,0))],[T_],n <= 10 /\ MemH mb (cK ((M.set ((af t.S t.i)+7) 0).set 0 (i64.wrap (((M.set ((af t.S t.i)+7) 0).get 0)+1))) n) (k+10-n) T_,10-n⟩) (0,XS) [0] [0] (⟨by omega,WY.weak (by omega)⟩) ?_
    rintro⟨n,T_⟩ ⟨Yn,Tk⟩ mt37
    refine ae 7 [] λ _=>RN.em (((n+1:Nat):Int) <= 10) 92 (λ Y_=>?_) λ Y_=>?_
    ·obtain⟨e_,RU⟩:∃e,k+10-n=e+1:=⟨k+9-n,by omega⟩
     have Ua:MemH mb (cK ((M.set ((af t.S t.i)+7) 0).set 0 (i64.wrap (((M.set ((af t.S t.i)+7) 0).get 0)+1))) n) (e_+1) T_:=RU ▸ Tk
     refine ae 11 [.own 0] λ _=>RN.ct [] [0] (aj ((n+1:Nat):Int) 0 Ua) ?_
     rintro _ V7 SO
     refine ai 8 [.nw] [aU (((n+1:Nat):Int)+1)] λ _=>?_
     refine mt37 (n+1,V7) [0] [0] ?_
     try dsimp only
     refine⟨⟨by omega,SO.cast (by rw[cK]) (by omega)⟩,by omega⟩
    ·refine ae 5 [] λ _=>RN.ret [] [0] [0] (v:=.tuple #[]) (H':=(ap [(tb,.lit [.iface 96 (vP mb 0),vI t.S.players,vS t.S.bb (t.S.bo*9) t.S.nb t.S.bc,vI t.S.box.x0,vI t.S.box.y0,vI t.S.box.x1,vI t.S.box.y1,.slice t.S.rA t.S.rn t.S.rc,.slice t.S.dA t.S.dn t.S.dc,vI t.S.fog,vI t.S.g.x,vI t.S.g.y,vI t.S.push,vI t.S.drag,vI t.S.rest,vI t.S.rounds,vI t.S.fuel,.slice t.cA t.cn t.cc,vI t.e0,vI t.e1,vI t.e2,vI t.version,vS t.ib (t.io*3) t.ni t.ic,vI t.i,vI t.j,.bool true,vI t.f0,vI t.f1,vI t.f2,vI t.f3,.bool t.emitted] 275 (0,0))] [T_])) ?_
     refine⟨T_,by simp only[fJ,Stp.l,if_pos h2,if_neg h3,if_neg Ue,if_neg Y_],?_⟩
     have en:n=10:=by omega
     have e:(dG t M)=(cK ((M.set ((af t.S t.i)+7) 0).set 0 (i64.wrap (((M.set ((af t.S t.i)+7) 0).get 0)+1))) n):=by
      rw[en]
      simp only[dG,ge,hO,if_pos h2,if_neg h3,if_neg Ue,if_neg Y_]
     rw[e]
     exact Tk.weak (by omega)
 ·refine ae 5 [] λ _=>RN.draw [] []<|ag [] [0,5,1,6,2,7,3,8,4,9,10,11] [.own 0,.own 0]<|RD.fin<|ae 1 [] λ _=>RN.em (i64.wrap (t.i+1)<(t.S.nb:Int)) 62 (λ RM=>?_) λ RM=>?_
  ·refine ae 2 [] λ _=>RN.draw [11] []<|ag [] [0,4,1,5,2,6,3,7,8,9,10] [.own 0,.own 0]<|RD.one 11 (RDO.ct [] [] [0] (aj 2 (i64.wrap (t.i+1)) hM) ?_)
   rintro _ XR VP
   refine RD.fin<|ae 1 [] λ _=>RN.ret [] [0] [0] (v:=.tuple #[]) (H':=(ap [(tb,.lit (Stp.l t mb) 275 (0,0))] [XR])) ?_
   refine⟨XR,by simp only[fJ,Stp.l,if_neg h2,if_pos RM],?_⟩
   have e:(dG t M)=(M.set 2 (i64.wrap (t.i+1))):=by
    simp only[dG,ge,hO,if_neg h2,if_pos RM]
   rw[e]
   exact VP.weak (by omega)
  ·refine ae 12 [.own 0] λ _=>RN.draw [12] []<|ag [] [0,4,1,5,2,6,3,7,10,11] [.own 0,.own 0]<|RD.cp [] 8 (λ X_=>(aw 0 hM (aS 0)))<|ag [] [9] []<|RD.one 12 (RDO.ct [] [] [0] (aj 0 (i64.wrap ((M.get 0)+1)) hM) ?_)
   rintro _ T44 VN
   refine RD.fin<|ae 7 [] λ _=>RN.loop (σ:=Nat × HL) (λ ⟨n,T_⟩=>⟨[(0,vP tb 0),(4,vI ((n+1:Nat):Int))],[(tb,.lit [.iface 96 (vP mb 0),vI t.S.players,vS t.S.bb (t.S.bo*9) t.S.nb t.S.bc,vI t.S.box.x0,vI t.S.box.y0,vI t.S.box.x1,vI t.S.box.y1,.slice t.S.rA t.S.rn t.S.rc,.slice t.S.dA t.S.dn t.S.dc,vI t.S.fog,vI t.S.g.x,vI t.S.g.y,vI t.S.push,vI t.S.drag,vI t.S.rest,vI t.S.rounds,vI t.S.fuel,.slice t.cA t.cn t.cc,vI t.e0,vI t.e1,vI t.e2,vI t.version,vS t.ib (t.io*3) t.ni t.ic,vI t.i,vI t.j,.bool true,vI t.f0,vI t.f1,vI t.f2,vI t.f3,.bool t.emitted] 275 (0,0))],[T_],n <= 10 /\ MemH mb (cK (M.set 0 (i64.wrap ((M.get 0)+1))) n) (k+10-n) T_,10-n⟩) (0,T44) [0] [0] (⟨by omega,VN.weak (by omega)⟩) ?_
   rintro⟨n,T_⟩ ⟨Yn,Tk⟩ X2
   refine ae 7 [] λ _=>RN.em (((n+1:Nat):Int) <= 10) 92 (λ TC=>?_) λ TC=>?_
   ·obtain⟨e_,RU⟩:∃e,k+10-n=e+1:=⟨k+9-n,by omega⟩
    have Ua:MemH mb (cK (M.set 0 (i64.wrap ((M.get 0)+1))) n) (e_+1) T_:=RU ▸ Tk
    refine ae 11 [.own 0] λ _=>RN.ct [] [0] (aj ((n+1:Nat):Int) 0 Ua) ?_
    rintro _ Xg SN
    refine ai 8 [.nw] [aU (((n+1:Nat):Int)+1)] λ _=>?_
    refine X2 (n+1,Xg) [0] [0] ?_
    try dsimp only
    refine⟨⟨by omega,SN.cast (by rw[cK]) (by omega)⟩,by omega⟩
   ·refine ae 5 [] λ _=>RN.ret [] [0] [0] (v:=.tuple #[]) (H':=(ap [(tb,.lit [.iface 96 (vP mb 0),vI t.S.players,vS t.S.bb (t.S.bo*9) t.S.nb t.S.bc,vI t.S.box.x0,vI t.S.box.y0,vI t.S.box.x1,vI t.S.box.y1,.slice t.S.rA t.S.rn t.S.rc,.slice t.S.dA t.S.dn t.S.dc,vI t.S.fog,vI t.S.g.x,vI t.S.g.y,vI t.S.push,vI t.S.drag,vI t.S.rest,vI t.S.rounds,vI t.S.fuel,.slice t.cA t.cn t.cc,vI t.e0,vI t.e1,vI t.e2,vI t.version,vS t.ib (t.io*3) t.ni t.ic,vI t.i,vI t.j,.bool true,vI t.f0,vI t.f1,vI t.f2,vI t.f3,.bool t.emitted] 275 (0,0))] [T_])) ?_
    refine⟨T_,by simp only[fJ,Stp.l,if_neg h2,if_neg RM,if_neg TC],?_⟩
    have en:n=10:=by omega
    have e:(dG t M)=(cK (M.set 0 (i64.wrap ((M.get 0)+1))) n):=by
     rw[en]
     simp only[dG,ge,hO,if_neg h2,if_neg RM,if_neg TC]
    rw[e]
    exact Tk.weak (by omega)
structure Gm where
 S:Setup
 cA:Option Addr
 cn:Nat
 cc:Nat
 e0:Int
 e1:Int
 e2:Int
 version:Int
 ib:Nat
 io:Nat
 ni:Nat
 ic:Nat
 iR:Nat
 ins:List Inp
 code:List Ins
abbrev Gm.step(g:Gm)(M:MemS):Stp:=⟨g.S,g.cA,g.cn,g.cc,g.e0,g.e1,g.e2,g.version,g.ib,g.io,g.ni,g.ic,g.iR,g.ins,M.get 2,M.get 3,false,0,0,0,0,false,g.code⟩
theorem MC(g:Gm)(mb:Nat)(M:MemS)(k:Nat)(T F:HL)(hM:MemH mb M (k+20) T)(hS:SetIn F g.S)(hp:M.get 1=0)(hI:(g.ib,.rows 3 g.iR (gc g.ins) 119 (0,0))∈F)(hir:g.io+g.ni <= g.iR /\ g.ni <= 1000000):Sp Tryz.prog 125 #[.iface 96 (vP mb 0),.agg #[vI g.S.players,vS g.S.bb (g.S.bo*9) g.S.nb g.S.bc,vI g.S.box.x0,vI g.S.box.y0,vI g.S.box.x1,vI g.S.box.y1,.slice g.S.rA g.S.rn g.S.rc,.slice g.S.dA g.S.dn g.S.dc,vI g.S.fog,vI g.S.g.x,vI g.S.g.y,vI g.S.push,vI g.S.drag,vI g.S.rest,vI g.S.rounds,vI g.S.fuel],.agg #[.slice g.cA g.cn g.cc,vI g.e0,vI g.e1,vI g.e2],vI g.version,vS g.ib (g.io*3) g.ni g.ic] (ap [] [T]) F (λ u H'=>∃x,H'=ap [] [x] /\ (MemH mb (aQ (g.step M) M) k x /\ u=.tuple #[.bool false,.agg #[vI 0,vI 0,vI 0,vI 0],.bool false])):=by
 refine Sp.run Tryz.func125 rfl mn (A:=[]) (Ts:=[T]) rfl λ w0=>?_
 refine ae 29 (ow 0 8) λ n1=>RN.cp (jq 1 hp hM (ar 0))<|ae 18 [] λ _=>RN.draw [] []<|ag [] [0,1,2,3,4,5,7] (ow 3 16++[.own 2,.own 2,.own 2,.own 2])<|RD.cp [] 6 (λ X_=>(aw 2 hM (aS 0)))<|RD.cp [] 8 (λ X_=>(aw 3 hM (aS 0)))<|ag [] [9] []<|RD.one 10 (RDO.ev [] [] λ n2=>?_)
 refine ag [] [11] []<|RD.fin<|ae 7 [.own 1] λ _=>RN.ct [0] [0] (CS (g.step M) (n2+0) mb M (k+12) T _ hM hS.up (List.mem_append_right _ hI) hir) ?_
 rintro _ T3 L_
 refine ae 3 [] λ _=>RN.draw [13] [0,1,3,4]<|ag [0,1,3,4] [0,4,8,1,5,9,2,6,10,3,7,11,12] (ow 0 5++[.ro 0])<|RD.one 13 (RDO.ev [0,1,3,4] [.own 2,.own 2,.own 2,.own 2] λ _=>?_)
 refine ag [0,1,3,4] [14] []<|RD.fin<|ae 1 [] λ _=>RN.ret [.own 2,.own 2,.own 2,.own 2] [] [0] (v:=.tuple #[.bool false,.agg #[vI 0,vI 0,vI 0,vI 0],.bool false]) (H':=(ap [] [T3])) ?_
 exact⟨T3,rfl,L_.weak (by omega),rfl⟩
theorem MD(g:Gm)(mb:Nat)(M:MemS)(k:Nat)(T F:HL)(hM:MemH mb M (k+20) T)(hS:SetIn F g.S)(hp:M.get 1=1)(hE:dh F)(hC:CodeIn F g.code g.cA g.cn):Sp Tryz.prog 125 #[.iface 96 (vP mb 0),.agg #[vI g.S.players,vS g.S.bb (g.S.bo*9) g.S.nb g.S.bc,vI g.S.box.x0,vI g.S.box.y0,vI g.S.box.x1,vI g.S.box.y1,.slice g.S.rA g.S.rn g.S.rc,.slice g.S.dA g.S.dn g.S.dc,vI g.S.fog,vI g.S.g.x,vI g.S.g.y,vI g.S.push,vI g.S.drag,vI g.S.rest,vI g.S.rounds,vI g.S.fuel],.agg #[.slice g.cA g.cn g.cc,vI g.e0,vI g.e1,vI g.e2],vI g.version,vS g.ib (g.io*3) g.ni g.ic] (ap [] [T]) F (λ u H'=>∃x,H'=ap [] [x] /\ (MemH mb (fi (g.step M) M).M k x /\ u=.tuple #[.bool false,.agg #[vI ((fi (g.step M) M).e.t),vI ((fi (g.step M) M).e.i),vI ((fi (g.step M) M).e.k),vI ((fi (g.step M) M).e.v)],.bool ((fi (g.step M) M).em)])):=by
 refine Sp.run Tryz.func125 rfl mn (A:=[]) (Ts:=[T]) rfl λ w0=>?_
 refine ae 29 (ow 0 8) λ n1=>RN.cp (jq 1 hp hM (ar 0))<|ae 18 [] λ _=>RN.draw [] []<|ag [] [0,1,2,3,4,5,7] (ow 3 16++[.own 2,.own 2,.own 2,.own 2])<|RD.cp [] 6 (λ X_=>(aw 2 hM (aS 0)))<|RD.cp [] 8 (λ X_=>(aw 3 hM (aS 0)))<|ag [] [9] []<|RD.one 10 (RDO.ev [] [] λ n2=>?_)
 refine ag [] [11] []<|RD.fin<|ae 7 [.own 1] λ _=>RN.ct [0] [0] (OA (g.step M) (n2+0) mb M (k+11) T _ hM hS.up (aq hE) hC.up) ?_
 rintro _ T3 L_
 refine ae 3 [] λ _=>RN.draw [13] [0,1,3,4]<|ag [0,1,3,4] [0,4,8,1,5,9,2,6,10,3,7,11,12] (ow 0 5++[.ro 0])<|RD.one 13 (RDO.ev [0,1,3,4] [.own 2,.own 2,.own 2,.own 2] λ _=>?_)
 refine ag [0,1,3,4] [14] []<|RD.fin<|ae 1 [] λ _=>RN.ret [.own 2,.own 2,.own 2,.own 2] [] [0] (v:=.tuple #[.bool false,.agg #[vI ((fi (g.step M) M).e.t),vI ((fi (g.step M) M).e.i),vI ((fi (g.step M) M).e.k),vI ((fi (g.step M) M).e.v)],.bool ((fi (g.step M) M).em)]) (H':=(ap [] [T3])) ?_
 exact⟨T3,rfl,L_.weak (by omega),rfl⟩
theorem trans2(g:Gm)(mb:Nat)(M:MemS)(k:Nat)(T F:HL)(hM:MemH mb M (k+20) T)(hS:SetIn F g.S)(hp:M.get 1=2)(hE:dh F)(hC:CodeIn F g.code g.cA g.cn):Sp Tryz.prog 125 #[.iface 96 (vP mb 0),.agg #[vI g.S.players,vS g.S.bb (g.S.bo*9) g.S.nb g.S.bc,vI g.S.box.x0,vI g.S.box.y0,vI g.S.box.x1,vI g.S.box.y1,.slice g.S.rA g.S.rn g.S.rc,.slice g.S.dA g.S.dn g.S.dc,vI g.S.fog,vI g.S.g.x,vI g.S.g.y,vI g.S.push,vI g.S.drag,vI g.S.rest,vI g.S.rounds,vI g.S.fuel],.agg #[.slice g.cA g.cn g.cc,vI g.e0,vI g.e1,vI g.e2],vI g.version,vS g.ib (g.io*3) g.ni g.ic] (ap [] [T]) F (λ u H'=>∃x,H'=ap [] [x] /\ (MemH mb (cY (g.step M) M).M k x /\ u=.tuple #[.bool false,.agg #[vI ((cY (g.step M) M).e.t),vI ((cY (g.step M) M).e.i),vI ((cY (g.step M) M).e.k),vI ((cY (g.step M) M).e.v)],.bool ((cY (g.step M) M).em)])):=by
 refine Sp.run Tryz.func125 rfl mn (A:=[]) (Ts:=[T]) rfl λ w0=>?_
 refine ae 29 (ow 0 8) λ n1=>RN.cp (jq 1 hp hM (ar 0))<|ae 18 [] λ _=>RN.draw [] []<|ag [] [0,1,2,3,4,5,7] (ow 3 16++[.own 2,.own 2,.own 2,.own 2])<|RD.cp [] 6 (λ X_=>(aw 2 hM (aS 0)))<|RD.cp [] 8 (λ X_=>(aw 3 hM (aS 0)))<|ag [] [9] []<|RD.one 10 (RDO.ev [] [] λ n2=>?_)
 refine ag [] [11] []<|RD.fin<|ae 7 [.own 1] λ _=>RN.ct [0] [0] (MB (g.step M) (n2+0) mb M (k+11) T _ hM hS.up (aq hE) hC.up) ?_
 rintro _ T3 L_
 refine ae 3 [] λ _=>RN.draw [13] [0,1,3,4]<|ag [0,1,3,4] [0,4,8,1,5,9,2,6,10,3,7,11,12] (ow 0 5++[.ro 0])<|RD.one 13 (RDO.ev [0,1,3,4] [.own 2,.own 2,.own 2,.own 2] λ _=>?_)
 refine ag [0,1,3,4] [14] []<|RD.fin<|ae 1 [] λ _=>RN.ret [.own 2,.own 2,.own 2,.own 2] [] [0] (v:=.tuple #[.bool false,.agg #[vI ((cY (g.step M) M).e.t),vI ((cY (g.step M) M).e.i),vI ((cY (g.step M) M).e.k),vI ((cY (g.step M) M).e.v)],.bool ((cY (g.step M) M).em)]) (H':=(ap [] [T3])) ?_
 exact⟨T3,rfl,L_.weak (by omega),rfl⟩
theorem ME(g:Gm)(mb:Nat)(M:MemS)(k:Nat)(T F:HL)(hM:MemH mb M (k+20) T)(hS:SetIn F g.S)(hp:M.get 1=3) :Sp Tryz.prog 125 #[.iface 96 (vP mb 0),.agg #[vI g.S.players,vS g.S.bb (g.S.bo*9) g.S.nb g.S.bc,vI g.S.box.x0,vI g.S.box.y0,vI g.S.box.x1,vI g.S.box.y1,.slice g.S.rA g.S.rn g.S.rc,.slice g.S.dA g.S.dn g.S.dc,vI g.S.fog,vI g.S.g.x,vI g.S.g.y,vI g.S.push,vI g.S.drag,vI g.S.rest,vI g.S.rounds,vI g.S.fuel],.agg #[.slice g.cA g.cn g.cc,vI g.e0,vI g.e1,vI g.e2],vI g.version,vS g.ib (g.io*3) g.ni g.ic] (ap [] [T]) F (λ u H'=>∃x,H'=ap [] [x] /\ (MemH mb (aR (g.step M) M) k x /\ u=.tuple #[.bool false,.agg #[vI 0,vI 0,vI 0,vI 0],.bool false])):=by
 refine Sp.run Tryz.func125 rfl mn (A:=[]) (Ts:=[T]) rfl λ w0=>?_
 refine ae 29 (ow 0 8) λ n1=>RN.cp (jq 1 hp hM (ar 0))<|ae 18 [] λ _=>RN.draw [] []<|ag [] [0,1,2,3,4,5,7] (ow 3 16++[.own 2,.own 2,.own 2,.own 2])<|RD.cp [] 6 (λ X_=>(aw 2 hM (aS 0)))<|RD.cp [] 8 (λ X_=>(aw 3 hM (aS 0)))<|ag [] [9] []<|RD.one 10 (RDO.ev [] [] λ n2=>?_)
 refine ag [] [11] []<|RD.fin<|ae 7 [.own 1] λ _=>RN.ct [0] [0] (CT (g.step M) (n2+0) mb M (k+12) T _ hM hS.up ) ?_
 rintro _ T3 L_
 refine ae 3 [] λ _=>RN.draw [13] [0,1,3,4]<|ag [0,1,3,4] [0,4,8,1,5,9,2,6,10,3,7,11,12] (ow 0 5++[.ro 0])<|RD.one 13 (RDO.ev [0,1,3,4] [.own 2,.own 2,.own 2,.own 2] λ _=>?_)
 refine ag [0,1,3,4] [14] []<|RD.fin<|ae 1 [] λ _=>RN.ret [.own 2,.own 2,.own 2,.own 2] [] [0] (v:=.tuple #[.bool false,.agg #[vI 0,vI 0,vI 0,vI 0],.bool false]) (H':=(ap [] [T3])) ?_
 exact⟨T3,rfl,L_.weak (by omega),rfl⟩
theorem MF(g:Gm)(mb:Nat)(M:MemS)(k:Nat)(T F:HL)(hM:MemH mb M (k+20) T)(hS:SetIn F g.S)(hp:M.get 1=4) :Sp Tryz.prog 125 #[.iface 96 (vP mb 0),.agg #[vI g.S.players,vS g.S.bb (g.S.bo*9) g.S.nb g.S.bc,vI g.S.box.x0,vI g.S.box.y0,vI g.S.box.x1,vI g.S.box.y1,.slice g.S.rA g.S.rn g.S.rc,.slice g.S.dA g.S.dn g.S.dc,vI g.S.fog,vI g.S.g.x,vI g.S.g.y,vI g.S.push,vI g.S.drag,vI g.S.rest,vI g.S.rounds,vI g.S.fuel],.agg #[.slice g.cA g.cn g.cc,vI g.e0,vI g.e1,vI g.e2],vI g.version,vS g.ib (g.io*3) g.ni g.ic] (ap [] [T]) F (λ u H'=>∃x,H'=ap [] [x] /\ (MemH mb (bT (g.step M) M) k x /\ u=.tuple #[.bool false,.agg #[vI 0,vI 0,vI 0,vI 0],.bool false])):=by
 refine Sp.run Tryz.func125 rfl mn (A:=[]) (Ts:=[T]) rfl λ w0=>?_
 refine ae 29 (ow 0 8) λ n1=>RN.cp (jq 1 hp hM (ar 0))<|ae 18 [] λ _=>RN.draw [] []<|ag [] [0,1,2,3,4,5,7] (ow 3 16++[.own 2,.own 2,.own 2,.own 2])<|RD.cp [] 6 (λ X_=>(aw 2 hM (aS 0)))<|RD.cp [] 8 (λ X_=>(aw 3 hM (aS 0)))<|ag [] [9] []<|RD.one 10 (RDO.ev [] [] λ n2=>?_)
 refine ag [] [11] []<|RD.fin<|ae 7 [.own 1] λ _=>RN.ct [0] [0] (uZ (g.step M) (n2+0) mb M (k+6) T _ hM hS.up ) ?_
 rintro _ T3 L_
 refine ae 3 [] λ _=>RN.draw [13] [0,1,3,4]<|ag [0,1,3,4] [0,4,8,1,5,9,2,6,10,3,7,11,12] (ow 0 5++[.ro 0])<|RD.one 13 (RDO.ev [0,1,3,4] [.own 2,.own 2,.own 2,.own 2] λ _=>?_)
 refine ag [0,1,3,4] [14] []<|RD.fin<|ae 1 [] λ _=>RN.ret [.own 2,.own 2,.own 2,.own 2] [] [0] (v:=.tuple #[.bool false,.agg #[vI 0,vI 0,vI 0,vI 0],.bool false]) (H':=(ap [] [T3])) ?_
 exact⟨T3,rfl,L_.weak (by omega),rfl⟩
theorem MG(g:Gm)(mb:Nat)(M:MemS)(k:Nat)(T F:HL)(hM:MemH mb M (k+20) T)(hS:SetIn F g.S)(hp:M.get 1=5) :Sp Tryz.prog 125 #[.iface 96 (vP mb 0),.agg #[vI g.S.players,vS g.S.bb (g.S.bo*9) g.S.nb g.S.bc,vI g.S.box.x0,vI g.S.box.y0,vI g.S.box.x1,vI g.S.box.y1,.slice g.S.rA g.S.rn g.S.rc,.slice g.S.dA g.S.dn g.S.dc,vI g.S.fog,vI g.S.g.x,vI g.S.g.y,vI g.S.push,vI g.S.drag,vI g.S.rest,vI g.S.rounds,vI g.S.fuel],.agg #[.slice g.cA g.cn g.cc,vI g.e0,vI g.e1,vI g.e2],vI g.version,vS g.ib (g.io*3) g.ni g.ic] (ap [] [T]) F (λ u H'=>∃x,H'=ap [] [x] /\ (MemH mb (dZ (g.step M) M) k x /\ u=.tuple #[.bool false,.agg #[vI 0,vI 0,vI 0,vI 0],.bool false])):=by
 refine Sp.run Tryz.func125 rfl mn (A:=[]) (Ts:=[T]) rfl λ w0=>?_
 refine ae 29 (ow 0 8) λ n1=>RN.cp (jq 1 hp hM (ar 0))<|ae 18 [] λ _=>RN.draw [] []<|ag [] [0,1,2,3,4,5,7] (ow 3 16++[.own 2,.own 2,.own 2,.own 2])<|RD.cp [] 6 (λ X_=>(aw 2 hM (aS 0)))<|RD.cp [] 8 (λ X_=>(aw 3 hM (aS 0)))<|ag [] [9] []<|RD.one 10 (RDO.ev [] [] λ n2=>?_)
 refine ag [] [11] []<|RD.fin<|ae 7 [.own 1] λ _=>RN.ct [0] [0] (C4 (g.step M) (n2+0) mb M (k+12) T _ hM hS.up ) ?_
 rintro _ T3 L_
 refine ae 3 [] λ _=>RN.draw [13] [0,1,3,4]<|ag [0,1,3,4] [0,4,8,1,5,9,2,6,10,3,7,11,12] (ow 0 5++[.ro 0])<|RD.one 13 (RDO.ev [0,1,3,4] [.own 2,.own 2,.own 2,.own 2] λ _=>?_)
 refine ag [0,1,3,4] [14] []<|RD.fin<|ae 1 [] λ _=>RN.ret [.own 2,.own 2,.own 2,.own 2] [] [0] (v:=.tuple #[.bool false,.agg #[vI 0,vI 0,vI 0,vI 0],.bool false]) (H':=(ap [] [T3])) ?_
 exact⟨T3,rfl,L_.weak (by omega),rfl⟩
theorem MH(g:Gm)(mb:Nat)(M:MemS)(k:Nat)(T F:HL)(hM:MemH mb M (k+20) T)(hS:SetIn F g.S)(hp:M.get 1=6)(hE:dh F)(hC:CodeIn F g.code g.cA g.cn):Sp Tryz.prog 125 #[.iface 96 (vP mb 0),.agg #[vI g.S.players,vS g.S.bb (g.S.bo*9) g.S.nb g.S.bc,vI g.S.box.x0,vI g.S.box.y0,vI g.S.box.x1,vI g.S.box.y1,.slice g.S.rA g.S.rn g.S.rc,.slice g.S.dA g.S.dn g.S.dc,vI g.S.fog,vI g.S.g.x,vI g.S.g.y,vI g.S.push,vI g.S.drag,vI g.S.rest,vI g.S.rounds,vI g.S.fuel],.agg #[.slice g.cA g.cn g.cc,vI g.e0,vI g.e1,vI g.e2],vI g.version,vS g.ib (g.io*3) g.ni g.ic] (ap [] [T]) F (λ u H'=>∃x,H'=ap [] [x] /\ (MemH mb (fj (g.step M) M).M k x /\ u=.tuple #[.bool false,.agg #[vI ((fj (g.step M) M).e.t),vI ((fj (g.step M) M).e.i),vI ((fj (g.step M) M).e.k),vI ((fj (g.step M) M).e.v)],.bool ((fj (g.step M) M).em)])):=by
 refine Sp.run Tryz.func125 rfl mn (A:=[]) (Ts:=[T]) rfl λ w0=>?_
 refine ae 29 (ow 0 8) λ n1=>RN.cp (jq 1 hp hM (ar 0))<|ae 18 [] λ _=>RN.draw [] []<|ag [] [0,1,2,3,4,5,7] (ow 3 16++[.own 2,.own 2,.own 2,.own 2])<|RD.cp [] 6 (λ X_=>(aw 2 hM (aS 0)))<|RD.cp [] 8 (λ X_=>(aw 3 hM (aS 0)))<|ag [] [9] []<|RD.one 10 (RDO.ev [] [] λ n2=>?_)
 refine ag [] [11] []<|RD.fin<|ae 7 [.own 1] λ _=>RN.ct [0] [0] (OB (g.step M) (n2+0) mb M (k+11) T _ hM hS.up (aq hE) hC.up) ?_
 rintro _ T3 L_
 refine ae 3 [] λ _=>RN.draw [13] [0,1,3,4]<|ag [0,1,3,4] [0,4,8,1,5,9,2,6,10,3,7,11,12] (ow 0 5++[.ro 0])<|RD.one 13 (RDO.ev [0,1,3,4] [.own 2,.own 2,.own 2,.own 2] λ _=>?_)
 refine ag [0,1,3,4] [14] []<|RD.fin<|ae 1 [] λ _=>RN.ret [.own 2,.own 2,.own 2,.own 2] [] [0] (v:=.tuple #[.bool false,.agg #[vI ((fj (g.step M) M).e.t),vI ((fj (g.step M) M).e.i),vI ((fj (g.step M) M).e.k),vI ((fj (g.step M) M).e.v)],.bool ((fj (g.step M) M).em)]) (H':=(ap [] [T3])) ?_
 exact⟨T3,rfl,L_.weak (by omega),rfl⟩
theorem MI(g:Gm)(mb:Nat)(M:MemS)(k:Nat)(T F:HL)(hM:MemH mb M (k+20) T)(hS:SetIn F g.S)(hp:M.get 1=7) :Sp Tryz.prog 125 #[.iface 96 (vP mb 0),.agg #[vI g.S.players,vS g.S.bb (g.S.bo*9) g.S.nb g.S.bc,vI g.S.box.x0,vI g.S.box.y0,vI g.S.box.x1,vI g.S.box.y1,.slice g.S.rA g.S.rn g.S.rc,.slice g.S.dA g.S.dn g.S.dc,vI g.S.fog,vI g.S.g.x,vI g.S.g.y,vI g.S.push,vI g.S.drag,vI g.S.rest,vI g.S.rounds,vI g.S.fuel],.agg #[.slice g.cA g.cn g.cc,vI g.e0,vI g.e1,vI g.e2],vI g.version,vS g.ib (g.io*3) g.ni g.ic] (ap [] [T]) F (λ u H'=>∃x,H'=ap [] [x] /\ (MemH mb (dG (g.step M) M) k x /\ u=.tuple #[.bool (fJ (g.step M)),.agg #[vI 0,vI 0,vI 0,vI 0],.bool false])):=by
 refine Sp.run Tryz.func125 rfl mn (A:=[]) (Ts:=[T]) rfl λ w0=>?_
 refine ae 29 (ow 0 8) λ n1=>RN.cp (jq 1 hp hM (ar 0))<|ae 18 [] λ _=>RN.draw [] []<|ag [] [0,1,2,3,4,5,7] (ow 3 16++[.own 2,.own 2,.own 2,.own 2])<|RD.cp [] 6 (λ X_=>(aw 2 hM (aS 0)))<|RD.cp [] 8 (λ X_=>(aw 3 hM (aS 0)))<|ag [] [9] []<|RD.one 10 (RDO.ev [] [] λ n2=>?_)
 refine ag [] [11] []<|RD.fin<|ae 7 [.own 1] λ _=>RN.ct [0] [0] (FI (g.step M) (n2+0) mb M (k+6) T _ hM hS.up ) ?_
 rintro _ T3 L_
 refine ae 3 [] λ _=>RN.draw [13] [0,1,3,4]<|ag [0,1,3,4] [0,4,8,1,5,9,2,6,10,3,7,11,12] (ow 0 5++[.ro 0])<|RD.one 13 (RDO.ev [0,1,3,4] [.own 2,.own 2,.own 2,.own 2] λ _=>?_)
 refine ag [0,1,3,4] [14] []<|RD.fin<|ae 1 [] λ _=>RN.ret [.own 2,.own 2,.own 2,.own 2] [] [0] (v:=.tuple #[.bool (fJ (g.step M)),.agg #[vI 0,vI 0,vI 0,vI 0],.bool false]) (H':=(ap [] [T3])) ?_
 exact⟨T3,rfl,L_.weak (by omega),rfl⟩
def wG:Enc Eff:=⟨4,λ p k=>match k with|0=>vI p.t|1=>vI p.i|2=>vI p.k|_=>vI p.v,bA⟩
noncomputable def LJ:TypeInfo:=match Tryz.prog.info? 197 with | some i=>i | none=>⟨.bool,"",0,0,false,0,0,none,false,#[]⟩
noncomputable def LK:Value:=match LJ.zero with|some z=>z|none=>.bool false
theorem MJ:EncOk wG Tryz.prog 197 LJ LK where
 info:=by kernel_rfl
 zero:=by kernel_rfl
 size:=by kernel_rfl
 zsize:=by kernel_rfl
 zcell:=λ k hk=>by
  have h:∀k<4,LK.cells[k]?=some (wG.cell wG.dflt k):=by intro k hk;(iterate 4 (rcases k with _|k;· kernel_rfl));omega
  exact h k hk
 one:=λ x k=>by unfold wG;dsimp only;split <;> rfl
 bytes:=Nat.le_of_ble_eq_true (by kernel_rfl)
def eT(g:Gm)(M:MemS):VR:=if M.get 1=0 then ⟨aQ (g.step M) M,0,bA,false⟩ else if M.get 1=1 then (fi (g.step M) M) else if M.get 1=2 then (cY (g.step M) M) else if M.get 1=3 then ⟨aR (g.step M) M,0,bA,false⟩ else if M.get 1=4 then ⟨bT (g.step M) M,0,bA,false⟩ else if M.get 1=5 then ⟨dZ (g.step M) M,0,bA,false⟩ else if M.get 1=6 then (fj (g.step M) M) else ⟨dG (g.step M) M,0,bA,false⟩
def jg(g:Gm)(M:MemS):Bool:=if M.get 1=7 then fJ (g.step M) else false
abbrev kX(g:Gm)(M:MemS):MemS:=(eT g M).M
abbrev FJ(M:MemS):Prop:=0 <= M.get 1 /\ M.get 1 <= 7
structure GmIn(F:HL)(g:Gm):Prop where
 set:SetIn F g.S
 ins:(g.ib,.rows 3 g.iR (gc g.ins) 119 (0,0))∈F
 room:g.io+g.ni <= g.iR /\ g.ni <= 1000000
 eff:dh F
 code:CodeIn F g.code g.cA g.cn
theorem C5(g:Gm)(mb:Nat)(M:MemS)(k:Nat)(T F:HL)(hM:MemH mb M (k+20) T)(hg:GmIn F g)(h0:FJ M)(Zj:Int)(X8:g.version=Zj):Sp Tryz.prog 125 #[.iface 96 (vP mb 0),.agg #[vI g.S.players,vS g.S.bb (g.S.bo*9) g.S.nb g.S.bc,vI g.S.box.x0,vI g.S.box.y0,vI g.S.box.x1,vI g.S.box.y1,.slice g.S.rA g.S.rn g.S.rc,.slice g.S.dA g.S.dn g.S.dc,vI g.S.fog,vI g.S.g.x,vI g.S.g.y,vI g.S.push,vI g.S.drag,vI g.S.rest,vI g.S.rounds,vI g.S.fuel],.agg #[.slice g.cA g.cn g.cc,vI g.e0,vI g.e1,vI g.e2],vI Zj,vS g.ib (g.io*3) g.ni g.ic] (ap [] [T]) F (λ u H'=>∃x,H'=ap [] [x] /\ (MemH mb (kX g M) k x /\ u=.tuple #[.bool (jg g M),.agg #[vI ((eT g M).e.t),vI ((eT g M).e.i),vI ((eT g M).e.k),vI ((eT g M).e.v)],.bool ((eT g M).em)])):=by
 subst X8
 by_cases h0:M.get 1=0
 ·rw[kX,show eT g M=⟨aQ (g.step M) M,0,bA,false⟩ by simp only[eT,if_pos h0],show jg g M=false by simp[jg,h0]]
  exact MC g mb M k T F hM hg.set h0 hg.ins hg.room
 by_cases h1:M.get 1=1
 ·rw[kX,show eT g M=(fi (g.step M) M) by simp only[eT,if_neg h0,if_pos h1],show jg g M=false by simp[jg,h1]]
  exact MD g mb M k T F hM hg.set h1 hg.eff hg.code
 by_cases h2:M.get 1=2
 ·rw[kX,show eT g M=(cY (g.step M) M) by simp only[eT,if_neg h0,if_neg h1,if_pos h2],show jg g M=false by simp[jg,h2]]
  exact trans2 g mb M k T F hM hg.set h2 hg.eff hg.code
 by_cases h3:M.get 1=3
 ·rw[kX,show eT g M=⟨aR (g.step M) M,0,bA,false⟩ by simp only[eT,if_neg h0,if_neg h1,if_neg h2,if_pos h3],show jg g M=false by simp[jg,h3]]
  exact ME g mb M k T F hM hg.set h3
 by_cases h4:M.get 1=4
 ·rw[kX,show eT g M=⟨bT (g.step M) M,0,bA,false⟩ by simp only[eT,if_neg h0,if_neg h1,if_neg h2,if_neg h3,if_pos h4],show jg g M=false by simp[jg,h4]]
  exact MF g mb M k T F hM hg.set h4
 by_cases h5:M.get 1=5
 ·rw[kX,show eT g M=⟨dZ (g.step M) M,0,bA,false⟩ by simp only[eT,if_neg h0,if_neg h1,if_neg h2,if_neg h3,if_neg h4,if_pos h5],show jg g M=false by simp[jg,h5]]
  exact MG g mb M k T F hM hg.set h5
 by_cases h6:M.get 1=6
 ·rw[kX,show eT g M=(fj (g.step M) M) by simp only[eT,if_neg h0,if_neg h1,if_neg h2,if_neg h3,if_neg h4,if_neg h5,if_pos h6],show jg g M=false by simp[jg,h6]]
  exact MH g mb M k T F hM hg.set h6 hg.eff hg.code
 have h7:M.get 1=7:=by omega
 rw[kX,show eT g M=⟨dG (g.step M) M,0,bA,false⟩ by simp only[eT,if_neg h0,if_neg h1,if_neg h2,if_neg h3,if_neg h4,if_neg h5,if_neg h6],show jg g M=fJ (g.step M) by simp[jg,h7]]
 exact MI g mb M k T F hM hg.set h7
def gn(g:Gm):Nat -> MemS -> MemS
 | 0,M=>M
 | n+1,M=>gn g n (kX g M)
def fK(g:Gm):Nat -> MemS -> List Eff
 | 0,_=>[]
 | n+1,M=>(if (eT g M).em=true then [(eT g M).e] else [])++fK g n (kX g M)
def dQ(g:Gm):Nat -> MemS -> Prop
 | 0,_=>False
 | n+1,M=>FJ M /\ ((n=0 /\ jg g M=true) \/ (jg g M=false /\ dQ g n (kX g M)))
theorem tG{g:Gm}{n:Nat}{M:MemS}(h:(eT g M).em=true):fK g (n+1) M=(eT g M).e::fK g n (kX g M):=by rw[fK,if_pos h];rfl
theorem oc{g:Gm}{n:Nat}{M:MemS}(h:¬ (eT g M).em=true):fK g (n+1) M=fK g n (kX g M):=by rw[fK,if_neg h];rfl
def Shp.nm(s:Shp):Shp:=⟨s.r,s.poly,none,0⟩
def Bod.nm(b:Bod):Bod:=⟨b.sh.nm,b.mot,b.a,b.b⟩
def Setup.nm(S:Setup):Setup:={ S with bb:=0,bo:=0,bc:=0,bR:=0,bods:=(S.bods.drop S.bo).map Bod.nm,rA:=none,rc:=0,dA:=none,dc:=0 }
def Stp.nm(t:Stp):Stp:={ t with S:=t.S.nm,cA:=none,cc:=0,ib:=0,io:=0,ic:=0,iR:=0,ins:=[] }
theorem C6{α:Type}(l:List α)(o k:Nat)(d:α):(l.drop o).getD (0+k) d=l.getD (o+k) d:=by
 rw[Nat.zero_add,List.getD_eq_getElem?_getD,List.getD_eq_getElem?_getD,List.getElem?_drop]
theorem FK{α β:Type}(f:α -> β)(l:List α)(k:Nat)(d:α):(l.map f).getD k (f d)=f (l.getD k d):=by
 rw[List.getD_eq_getElem?_getD,List.getD_eq_getElem?_getD,List.getElem?_map]
 cases l[k]? <;> rfl
theorem qp(S:Setup)(k:Nat):S.nm.body k=(S.body k).nm:=by
 show ((S.bods.drop S.bo).map Bod.nm).getD (0+k) dB=Bod.nm (S.bods.getD (S.bo+k) dB)
 rw[<- C6 S.bods S.bo k dB]
 exact FK Bod.nm _ _ dB
theorem kB(S:Setup):S.nm.players=S.players:=rfl
theorem iu(S:Setup):S.nm.nb=S.nb:=rfl
theorem FM(S:Setup):S.nm.box=S.box:=rfl
theorem MK(S:Setup):S.nm.g=S.g:=rfl
theorem C7(S:Setup):S.nm.push=S.push:=rfl
theorem C8(S:Setup):S.nm.drag=S.drag:=rfl
theorem tH(S:Setup):S.nm.rest=S.rest:=rfl
theorem wH(S:Setup):S.nm.rounds=S.rounds:=rfl
theorem tI(S:Setup):S.nm.fuel=S.fuel:=rfl
theorem Bk(t:Stp):t.nm.cn=t.cn:=rfl
theorem Bl(t:Stp):t.nm.e0=t.e0:=rfl
theorem JO(t:Stp):t.nm.e1=t.e1:=rfl
theorem Bm(t:Stp):t.nm.e2=t.e2:=rfl
theorem u9(t:Stp):t.nm.version=t.version:=rfl
theorem dm(t:Stp):t.nm.i=t.i:=rfl
theorem gV(t:Stp):t.nm.j=t.j:=rfl
theorem zp(t:Stp):t.nm.ended=t.ended:=rfl
theorem qr(t:Stp):t.nm.f0=t.f0:=rfl
theorem qs(t:Stp):t.nm.f1=t.f1:=rfl
theorem qt(t:Stp):t.nm.f2=t.f2:=rfl
theorem qu(t:Stp):t.nm.f3=t.f3:=rfl
theorem iw(t:Stp):t.nm.emitted=t.emitted:=rfl
theorem oW(t:Stp):t.nm.code=t.code:=rfl
theorem bG(t:Stp):t.nm.S=t.S.nm:=rfl
theorem Bn(b:Bod):b.nm.sh=b.sh.nm:=rfl
theorem wI(b:Bod):b.nm.mot=b.mot:=rfl
theorem ML(s:Shp):s.nm.r=s.r:=rfl
theorem jx(S:Setup)(k:Int) :ah S.nm k=ah S k:=by
 unfold ah
 simp only[kB,bG] <;> rfl
theorem fl(S:Setup)(k:Int) :af S.nm k=af S k:=by
 unfold af
 simp only[kB,iu,bG] <;> rfl
theorem vc(S:Setup)(k:Int) :(movP S.nm k)=(movP S k):=by
 unfold movP
 simp only[iu,bG,wI,qp] <;> rfl
theorem od(S:Setup)(M:MemS)(k:Int) :ao S.nm M k=ao S M k:=by
 unfold ao
 simp only[bG,wI,qp,fl] <;> rfl
theorem wJ(a:Shp)(pa:V2)(b:Shp)(pb:V2) :cB a.nm pa b.nm pb=cB a pa b pb:=by
 kernel_rfl
theorem FN(a:Shp)(pa va:V2)(b:Shp)(pb vb:V2) :mG a.nm pa va b.nm pb vb=mG a pa va b pb vb:=by
 kernel_rfl
theorem zq(t:Stp)(k:Int)(m:Mot)(M:MemS) :dP t.nm k m M=dP t k m M:=by
 unfold dP
 simp only[bG,fl] <;> rfl
theorem C9(t:Stp)(c sp pos lo hi:Int)(M:MemS) :ep t.nm c sp pos lo hi M=ep t c sp pos lo hi M:=by
 unfold ep
 simp only[tH,bG] <;> rfl
theorem tJ(t:Stp)(M:MemS) :br t.nm M=br t M:=by
 unfold br
 simp only[u9,dm,bG] <;> rfl
theorem tK(t:Stp)(M:MemS) :bZ t.nm M=bZ t M:=by
 unfold bZ
 simp only[kB,dm,bG] <;> rfl
theorem wK(t:Stp) :fJ t.nm=fJ t:=by
 unfold fJ
 simp only[iu,dm,zp,bG] <;> rfl
theorem FO(t:Stp)(M:MemS) :ge t.nm M=ge t M:=by
 unfold ge
 simp only[dm,bG,fl] <;> rfl
theorem FP(t:Stp)(M:MemS) :hO t.nm M=hO t M:=by
 unfold hO
 simp only[iu,dm,bG] <;> rfl
theorem wL(t:Stp)(M:MemS) :dG t.nm M=dG t M:=by
 unfold dG
 simp only[bG,FO,FP] <;> rfl
theorem Da(t:Stp)(M:MemS) :b6 t.nm M=b6 t M:=by
 unfold b6
 simp only[MK,C7,C8,dm,bG,jx,od] <;> rfl
theorem Db(t:Stp)(M:MemS) :bJ t.nm M=bJ t M:=by
 unfold bJ
 simp only[dm,bG,fl] <;> rfl
theorem Dc(t:Stp)(M:MemS) :bO t.nm M=bO t M:=by
 unfold bO
 simp only[dm,bG,fl,vc,Da] <;> rfl
theorem Dd(t:Stp)(M:MemS) :b7 t.nm M=b7 t M:=by
 unfold b7
 simp only[iu,dm,bG] <;> rfl
theorem tL(t:Stp)(M:MemS) :aR t.nm M=aR t M:=by
 unfold aR
 simp only[bG,Db,Dc,Dd] <;> rfl
theorem zr(t:Stp)(M:MemS) :gA t.nm M=gA t M:=by
 unfold gA
 simp only[dm,bG,od] <;> rfl
theorem zt(t:Stp)(M:MemS) :dk t.nm M=dk t M:=by
 unfold dk
 simp only[FM,dm,bG,fl,C9,zr] <;> rfl
theorem FQ(S:Setup)(op n a b:Int)(M:MemS) :aE S.nm op n a b M=aE S op n a b M:=by
 unfold aE
 simp only[bG,fl] <;> rfl
theorem FR(S:Setup)(op n sp pc fuel:Int)(M:MemS) :bX S.nm op n sp pc fuel M=bX S op n sp pc fuel M:=by
 unfold bX
 simp only[tI,bG,FQ] <;> rfl
theorem FS(S:Setup)(code:List Ins)(n:Nat)(M:MemS) :ak S.nm code n M=ak S code n M:=by
 unfold ak
 simp only[oW,bG,FR] <;> rfl
theorem vd(e:Int)(t:Stp)(self other:Int)(M:MemS) :eR e t.nm self other M=eR e t self other M:=by
 unfold eR
 simp only[tI,Bk,gV,iw,oW,bG,FS,qr,qs,qt,qu] <;> rfl
theorem ve(e:Int)(t:Stp)(self other:Int)(M:MemS) :du e t.nm self other M=du e t self other M:=by
 unfold du
 simp only[Bk,gV,oW,bG] <;> rfl
theorem wM(r:VR)(over:Bool)(t:Stp)(Sb:Bool)(M:MemS) :dH r over t.nm Sb M=dH r over t Sb M:=by
 unfold dH
 simp only[dm,gV,iw,bG,ML,qr,qs,qt,qu] <;> rfl
theorem Bo(t:Stp)(M:MemS) :fi t.nm M=fi t M:=by
 unfold fi
 simp only[dm,iw,bG,jx,qr,qs,qt,qu,Bl,Bm,vd,ve,wM] <;> rfl
theorem wN(t:Stp)(M:MemS) :cY t.nm M=cY t M:=by
 unfold cY
 simp only[bG,JO,dm,gV,vd,ve] <;> rfl
theorem Bp(t:Stp)(M:MemS) :fj t.nm M=fj t M:=by
 unfold fj
 simp only[dm,iw,bG,fl,qr,qs,qt,qu,Bl,Bm,vd,ve,wM] <;> rfl
theorem Bq(t:Stp)(M:MemS) :sT t.nm M=sT t M:=by
 unfold sT
 simp only[dm,gV,bG,Bn,qp,od,wJ] <;> rfl
theorem JP(t:Stp)(M:MemS) :wF t.nm M=wF t M:=by
 unfold wF
 simp only[tH,dm,gV,bG,od,Bq] <;> rfl
theorem wO(t:Stp)(M:MemS) :gJ t.nm M=gJ t M:=by
 unfold gJ
 simp only[dm,gV,bG,fl,zq,JP] <;> rfl
theorem De(t:Stp)(M:MemS) :dV t.nm M=dV t M:=by
 unfold dV
 simp only[iu,dm,gV,bG,Bq,wO] <;> rfl
theorem JQ(t:Stp)(M:MemS) :sU t.nm M=sU t M:=by
 unfold sU
 simp only[dm,gV,bG,Bn,qp,od,FN] <;> rfl
theorem FT(t:Stp)(M:MemS) :eZ t.nm M=eZ t M:=by
 unfold eZ
 simp only[dm,gV,bG,vc,JQ] <;> rfl
theorem FU(t:Stp)(M:MemS) :fS t.nm M=fS t M:=by
 unfold fS
 simp only[iu,dm,bG] <;> rfl
theorem wP(t:Stp)(M:MemS) :dZ t.nm M=dZ t M:=by
 unfold dZ
 simp only[iu,dm,gV,bG,vc,zt,FT,FU] <;> rfl
theorem pQ(t:Stp)(M:MemS) :bT t.nm M=bT t M:=by
 unfold bT
 simp only[iu,wH,dm,gV,bG,De] <;> rfl
def Gm.nm(g:Gm):Gm:={ g with S:=g.S.nm,cA:=none,cc:=0,ib:=0,io:=0,ic:=0,iR:=0,ins:=[] }
theorem l8(g:Gm)(M:MemS):g.nm.step M=(g.step M).nm:=rfl
structure GEq(g g':Gm):Prop where
 nm:g.nm=g'.nm
 inp:∀k,k<g.ni -> g.ins.getD (g.io+k) dI=g'.ins.getD (g'.io+k) dI
theorem Df{g g':Gm}(h:GEq g g')(M:MemS):aQ (g.step M) M=aQ (g'.step M) M:=by
 have hs:(g.step M).nm=(g'.step M).nm:=by rw[<- l8,<- l8,h.nm]
 unfold aQ
 rw[<- tJ (g.step M),hs,tJ]
 generalize br (g'.step M) M=N
 have hb:bC (g.step M) N=bC (g'.step M) N:=by
  have hS:(g.step M).S.nm=(g'.step M).S.nm:=show (g.step M).nm.S=(g'.step M).nm.S by rw[hs]
  have hi:(g.step M).i=(g'.step M).i:=show (g.step M).nm.i=(g'.step M).nm.i by rw[hs]
  have hn:(g.step M).ni=(g'.step M).ni:=show (g.step M).nm.ni=(g'.step M).nm.ni by rw[hs]
  unfold bC
  rw[<- jx (g.step M).S,hS,jx,hi,hn]
  by_cases h1:ah (g'.step M).S (g'.step M).i >= 0
  ·rw[if_pos h1,if_pos h1]
   by_cases h2:(g'.step M).i<(g'.step M).ni
   ·rw[if_pos h2,if_pos h2]
    have h3:0 <= (g'.step M).i:=by
     rcases Int.lt_or_le (g'.step M).i 0 with h4|h4
     ·unfold ah at h1;rw[if_pos h4] at h1;omega
     ·exact h4
    have e:(g.step M).inp (g'.step M).i.toNat=(g'.step M).inp (g'.step M).i.toNat:=by
     have h5:(g'.step M).i.toNat<g.ni:=by
      have h6:((g'.step M).ni:Int)=(g.ni:Int):=congrArg (Nat.cast) hn.symm
      omega
     exact h.inp _ h5
    rw[e]
   ·rw[if_neg h2,if_neg h2]
  ·rw[if_neg h1,if_neg h1]
 rw[hb,<- tK (g.step M),hs,tK]
theorem zu{g g':Gm}(h:GEq g g')(M:MemS):eT g M=eT g' M:=by
 have hs:(g.step M).nm=(g'.step M).nm:=by rw[<- l8,<- l8,h.nm]
 unfold eT
 rw[Df h,<- Bo (g.step M),<- wN (g.step M),<- tL (g.step M),<- pQ (g.step M),<- wP (g.step M),<- Bp (g.step M),<- wL (g.step M),hs,Bo,wN,tL,pQ,wP,Bp,wL]
theorem FV{g g':Gm}(h:GEq g g')(M:MemS):jg g M=jg g' M:=by
 have hs:(g.step M).nm=(g'.step M).nm:=by rw[<- l8,<- l8,h.nm]
 unfold jg
 rw[<- wK (g.step M),hs,wK]
theorem Br{g g':Gm}(h:GEq g g'):∀ (n:Nat) (M:MemS),gn g n M=gn g' n M
 | 0,_=>rfl
 | n+1,M=>by rw[gn,gn,kX,kX,zu h];exact Br h n _
def MemS.sh(M:MemS)(l:List (Int × Int))(b:Int):MemS:=⟨M.cs,l++M.lg,b⟩
def VR.sh(r:VR)(l:List (Int × Int))(b:Int):VR:={ r with M:=r.M.sh l b }
theorem aV(M:MemS)(l:List (Int × Int))(b i:Int):(M.sh l b).get i=M.get i:=rfl
theorem aW(M:MemS)(l:List (Int × Int))(b i v:Int):(M.sh l b).set i v=(M.set i v).sh l b:=by
 unfold MemS.set MemS.sh
 dsimp only
 split
 ·simp
 ·rfl
theorem aZ(M N:MemS)(l:List (Int × Int))(b:Int)(c:Prop)[Decidable c]:(if c then M.sh l b else N.sh l b)=(if c then M else N).sh l b:=by split <;> rfl
theorem aI(M N:VR)(l:List (Int × Int))(b:Int)(c:Prop)[Decidable c]:(if c then M.sh l b else N.sh l b)=(if c then M else N).sh l b:=by split <;> rfl
theorem aX(M:MemS)(l:List (Int × Int))(b v:Int)(e:Eff)(em:Bool):(⟨M.sh l b,v,e,em⟩:VR)=VR.sh ⟨M,v,e,em⟩ l b:=rfl
theorem aC(code:List Ins)(M:MemS)(l:List (Int × Int))(b:Int):bq code (M.sh l b)=bq code M:=rfl
theorem bU(r:VR)(l:List (Int × Int))(b:Int):(r.sh l b).z=r.z.sh l b:=rfl
theorem bH(r:VR)(l:List (Int × Int))(b:Int):(r.sh l b).M=r.M.sh l b:=rfl
theorem bV(r:VR)(l:List (Int × Int))(b:Int):(r.sh l b).v=r.v:=rfl
theorem bW(r:VR)(l:List (Int × Int))(b:Int):(r.sh l b).e=r.e:=rfl
theorem bd(r:VR)(l:List (Int × Int))(b:Int):(r.sh l b).em=r.em:=rfl
theorem og(S:Setup)(M:MemS)(k:Int)(l_:List (Int × Int))(b_:Int):ao S (M.sh l_ b_) k=ao S M k:=by
 unfold ao
 simp only[aV,aW,aZ,aI,aX,bH,bV,bW,bd,aC,bU] <;> rfl
theorem gq(t:Stp)(ph j:Int)(M:MemS)(l_:List (Int × Int))(b_:Int):aL t ph j (M.sh l_ b_)=(aL t ph j M).sh l_ b_:=by
 unfold aL
 simp only[aV,aW,aZ,aI,aX,bH,bV,bW,bd,aC,bU] <;> rfl
theorem zw(t:Stp)(k:Int)(m:Mot)(M:MemS)(l_:List (Int × Int))(b_:Int):dP t k m (M.sh l_ b_)=(dP t k m M).sh l_ b_:=by
 unfold dP
 simp only[aV,aW,aZ,aI,aX,bH,bV,bW,bd,aC,bU] <;> rfl
theorem Dg(t:Stp)(c sp pos lo hi:Int)(M:MemS)(l_:List (Int × Int))(b_:Int):ep t c sp pos lo hi (M.sh l_ b_)=(ep t c sp pos lo hi M).sh l_ b_:=by
 unfold ep
 simp only[aV,aW,aZ,aI,aX,bH,bV,bW,bd,aC,bU] <;> rfl
theorem Dh(t:Stp)(M:MemS)(l_:List (Int × Int))(b_:Int):br t (M.sh l_ b_)=(br t M).sh l_ b_:=by
 unfold br
 simp only[aV,aW,aZ,aI,aX,bH,bV,bW,bd,aC,bU] <;> rfl
theorem Di(t:Stp)(M:MemS)(l_:List (Int × Int))(b_:Int):bC t (M.sh l_ b_)=(bC t M).sh l_ b_:=by
 unfold bC
 simp only[aV,aW,aZ,aI,aX,bH,bV,bW,bd,aC,bU] <;> rfl
theorem Dj(t:Stp)(M:MemS)(l_:List (Int × Int))(b_:Int):bZ t (M.sh l_ b_)=(bZ t M).sh l_ b_:=by
 unfold bZ
 simp only[aV,aW,aZ,aI,aX,bH,bV,bW,bd,aC,bU,gq] <;> rfl
theorem Dk(t:Stp)(M:MemS)(l_:List (Int × Int))(b_:Int):aQ t (M.sh l_ b_)=(aQ t M).sh l_ b_:=by
 unfold aQ
 simp only[aV,aW,aZ,aI,aX,bH,bV,bW,bd,aC,bU,Dh,Di,Dj] <;> rfl
theorem FW(t:Stp)(M:MemS)(l_:List (Int × Int))(b_:Int):ge t (M.sh l_ b_)=(ge t M).sh l_ b_:=by
 unfold ge
 simp only[aV,aW,aZ,aI,aX,bH,bV,bW,bd,aC,bU] <;> rfl
theorem tM(M:MemS)(l_:List (Int × Int))(b_:Int):∀n,cK (M.sh l_ b_) n=(cK M n).sh l_ b_
 | 0=>rfl
 | n+1=>by rw[cK,cK,tM M l_ b_ n,aW]
theorem FX(t:Stp)(M:MemS)(l_:List (Int × Int))(b_:Int):hO t (M.sh l_ b_)=(hO t M).sh l_ b_:=by
 unfold hO
 simp only[aV,aW,aZ,aI,aX,bH,bV,bW,bd,aC,bU,tM] <;> rfl
theorem FY(t:Stp)(M:MemS)(l_:List (Int × Int))(b_:Int):dG t (M.sh l_ b_)=(dG t M).sh l_ b_:=by
 unfold dG
 simp only[aV,aW,aZ,aI,aX,bH,bV,bW,bd,aC,bU,FW,FX] <;> rfl
theorem Dl(t:Stp)(M:MemS)(l_:List (Int × Int))(b_:Int):b6 t (M.sh l_ b_)=b6 t M:=by
 unfold b6
 simp only[aV,aW,aZ,aI,aX,bH,bV,bW,bd,aC,bU,og] <;> rfl
theorem Dm(t:Stp)(M:MemS)(l_:List (Int × Int))(b_:Int):bJ t (M.sh l_ b_)=(bJ t M).sh l_ b_:=by
 unfold bJ
 simp only[aV,aW,aZ,aI,aX,bH,bV,bW,bd,aC,bU] <;> rfl
theorem Dn(t:Stp)(M:MemS)(l_:List (Int × Int))(b_:Int):bO t (M.sh l_ b_)=(bO t M).sh l_ b_:=by
 unfold bO
 simp only[aV,aW,aZ,aI,aX,bH,bV,bW,bd,aC,bU,Dl] <;> rfl
theorem Dp(t:Stp)(M:MemS)(l_:List (Int × Int))(b_:Int):b7 t (M.sh l_ b_)=(b7 t M).sh l_ b_:=by
 unfold b7
 simp only[aV,aW,aZ,aI,aX,bH,bV,bW,bd,aC,bU,gq] <;> rfl
theorem Dq(t:Stp)(M:MemS)(l_:List (Int × Int))(b_:Int):aR t (M.sh l_ b_)=(aR t M).sh l_ b_:=by
 unfold aR
 simp only[aV,aW,aZ,aI,aX,bH,bV,bW,bd,aC,bU,Dm,Dn,Dp] <;> rfl
theorem zx(M:MemS)(l_:List (Int × Int))(b_:Int):lZ (M.sh l_ b_)=lZ M:=by
 unfold lZ
 simp only[aV,aW,aZ,aI,aX,bH,bV,bW,bd,aC,bU] <;> rfl
theorem zy(t:Stp)(M:MemS)(l_:List (Int × Int))(b_:Int):gA t (M.sh l_ b_)=gA t M:=by
 unfold gA
 simp only[aV,aW,aZ,aI,aX,bH,bV,bW,bd,aC,bU,og,zx] <;> rfl
theorem zz(t:Stp)(M:MemS)(l_:List (Int × Int))(b_:Int):dk t (M.sh l_ b_)=(dk t M).sh l_ b_:=by
 unfold dk
 simp only[aV,aW,aZ,aI,aX,bH,bV,bW,bd,aC,bU,Dg,zy] <;> rfl
theorem FZ(k v:Int)(M:MemS)(l_:List (Int × Int))(b_:Int):cR k v (M.sh l_ b_)=(cR k v M).sh l_ b_:=by
 unfold cR
 simp only[aV,aW,aZ,aI,aX,bH,bV,bW,bd,aC,bU] <;> rfl
theorem F1(S:Setup)(op n a b:Int)(M:MemS)(l_:List (Int × Int))(b_:Int):aE S op n a b (M.sh l_ b_)=(aE S op n a b M).sh l_ b_:=by
 unfold aE
 simp only[aV,aW,aZ,aI,aX,bH,bV,bW,bd,aC,bU,FZ] <;> rfl
theorem JR(op sp:Int)(M:MemS)(l_:List (Int × Int))(b_:Int):d9 op sp (M.sh l_ b_)=d9 op sp M:=by
 unfold d9
 simp only[aV,aW,aZ,aI,aX,bH,bV,bW,bd,aC,bU] <;> rfl
theorem JS(op sp:Int)(M:MemS)(l_:List (Int × Int))(b_:Int):ee op sp (M.sh l_ b_)=ee op sp M:=by
 unfold ee
 simp only[aV,aW,aZ,aI,aX,bH,bV,bW,bd,aC,bU] <;> rfl
theorem JT(op sp pc fuel:Int)(M:MemS)(l_:List (Int × Int))(b_:Int):dJ op sp pc fuel (M.sh l_ b_)=(dJ op sp pc fuel M).sh l_ b_:=by
 unfold dJ
 simp only[aV,aW,aZ,aI,aX,bH,bV,bW,bd,aC,bU] <;> rfl
theorem F3(S:Setup)(op n sp pc fuel:Int)(M:MemS)(l_:List (Int × Int))(b_:Int):bX S op n sp pc fuel (M.sh l_ b_)=(bX S op n sp pc fuel M).sh l_ b_:=by
 unfold bX
 simp only[aV,aW,aZ,aI,aX,bH,bV,bW,bd,aC,bU,F1,JR,JS,JT] <;> rfl
theorem wQ(code:List Ins)(n:Nat)(M:MemS)(l_:List (Int × Int))(b_:Int):(dX code n (M.sh l_ b_))=(dX code n M):=by
 unfold dX
 simp only[aV,aW,aZ,aI,aX,bH,bV,bW,bd,aC,bU] <;> rfl
theorem F4(op sp:Int)(r:VR)(l_:List (Int × Int))(b_:Int):cm op sp (r.sh l_ b_)=(cm op sp r).sh l_ b_:=by
 unfold cm
 simp only[aV,aW,aZ,aI,aX,bH,bV,bW,bd,aC,bU] <;> rfl
theorem F5(S:Setup)(code:List Ins)(n:Nat)(M:MemS)(l_:List (Int × Int))(b_:Int):ak S code n (M.sh l_ b_)=(ak S code n M).sh l_ b_:=by
 unfold ak
 simp only[aV,aW,aZ,aI,aX,bH,bV,bW,bd,aC,bU,F3,wQ,F4] <;> rfl
theorem JU(code:List Ins)(n:Nat)(M:MemS)(l_:List (Int × Int))(b_:Int):bx code n (M.sh l_ b_)=bx code n M:=by
 unfold bx
 simp only[aV,aW,aZ,aI,aX,bH,bV,bW,bd,aC,bU,wQ] <;> rfl
theorem Ds(e fuel self other:Int)(M:MemS)(l_:List (Int × Int))(b_:Int):aM e fuel self other (M.sh l_ b_)=(aM e fuel self other M).sh l_ b_:=by
 unfold aM
 simp only[aV,aW,aZ,aI,aX,bH,bV,bW,bd,aC,bU] <;> rfl
theorem vf(e:Int)(t:Stp)(self other:Int)(M:MemS)(l_:List (Int × Int))(b_:Int):eR e t self other (M.sh l_ b_)=(eR e t self other M).sh l_ b_:=by
 unfold eR
 simp only[aV,aW,aZ,aI,aX,bH,bV,bW,bd,aC,bU,F5,Ds] <;> rfl
theorem vg(e:Int)(t:Stp)(self other:Int)(M:MemS)(l_:List (Int × Int))(b_:Int):du e t self other (M.sh l_ b_)=du e t self other M:=by
 unfold du
 simp only[aV,aW,aZ,aI,aX,bH,bV,bW,bd,aC,bU,JU] <;> rfl
theorem wR(r:VR)(over:Bool)(t:Stp)(Sb:Bool)(M:MemS)(l_:List (Int × Int))(b_:Int):dH (r.sh l_ b_) over t Sb (M.sh l_ b_)=(dH r over t Sb M).sh l_ b_:=by
 unfold dH
 simp only[aV,aW,aZ,aI,aX,bH,bV,bW,bd,aC,bU] <;> rfl
theorem F6(t:Stp)(o:Int)(c:Bool)(M:MemS)(l_:List (Int × Int))(b_:Int):cS t o c (M.sh l_ b_)=(cS t o c M).sh l_ b_:=by
 unfold cS b8 jM
 rw[vf,vg,wR]
theorem F7(t:Stp)(o:Int)(c:Bool)(M:MemS)(l_:List (Int × Int))(b_:Int):cT t o c (M.sh l_ b_)=(cT t o c M).sh l_ b_:=by
 unfold cT b9 jN
 rw[vf,vg,wR]
theorem JV(t:Stp)(M:MemS)(l_:List (Int × Int))(b_:Int):fi t (M.sh l_ b_)=(fi t M).sh l_ b_:=by
 unfold fi
 simp only[aV,aW,aZ,aI,aX,bH,bV,bW,bd,aC,bU,gq,F6] <;> rfl
theorem F8(t:Stp)(M:MemS)(l_:List (Int × Int))(b_:Int):cY t (M.sh l_ b_)=(cY t M).sh l_ b_:=by
 unfold cY
 simp only[aV,aW,aZ,aI,aX,bH,bV,bW,bd,aC,bU,gq,vf,vg] <;> rfl
theorem Bt(t:Stp)(M:MemS)(l_:List (Int × Int))(b_:Int):sT t (M.sh l_ b_)=sT t M:=by
 unfold sT
 simp only[aV,aW,aZ,aI,aX,bH,bV,bW,bd,aC,bU,og] <;> rfl
theorem JW(t:Stp)(M:MemS)(l_:List (Int × Int))(b_:Int):wF t (M.sh l_ b_)=wF t M:=by
 unfold wF
 simp only[aV,aW,aZ,aI,aX,bH,bV,bW,bd,aC,bU,og,Bt] <;> rfl
theorem wS(t:Stp)(M:MemS)(l_:List (Int × Int))(b_:Int):gJ t (M.sh l_ b_)=(gJ t M).sh l_ b_:=by
 unfold gJ
 simp only[aV,aW,aZ,aI,aX,bH,bV,bW,bd,aC,bU,zw,JW] <;> rfl
theorem Dt(t:Stp)(M:MemS)(l_:List (Int × Int))(b_:Int):dV t (M.sh l_ b_)=(dV t M).sh l_ b_:=by
 unfold dV
 simp only[aV,aW,aZ,aI,aX,bH,bV,bW,bd,aC,bU,Bt,wS] <;> rfl
theorem JX(t:Stp)(M:MemS)(l_:List (Int × Int))(b_:Int):sU t (M.sh l_ b_)=sU t M:=by
 unfold sU
 simp only[aV,aW,aZ,aI,aX,bH,bV,bW,bd,aC,bU,og] <;> rfl
theorem F9(t:Stp)(M:MemS)(l_:List (Int × Int))(b_:Int):eZ t (M.sh l_ b_)=(eZ t M).sh l_ b_:=by
 unfold eZ
 simp only[aV,aW,aZ,aI,aX,bH,bV,bW,bd,aC,bU,JX] <;> rfl
theorem Ga(t:Stp)(M:MemS)(l_:List (Int × Int))(b_:Int):fS t (M.sh l_ b_)=(fS t M).sh l_ b_:=by
 unfold fS
 simp only[aV,aW,aZ,aI,aX,bH,bV,bW,bd,aC,bU,gq] <;> rfl
theorem Gb(t:Stp)(M:MemS)(l_:List (Int × Int))(b_:Int):dZ t (M.sh l_ b_)=(dZ t M).sh l_ b_:=by
 unfold dZ
 simp only[aV,aW,aZ,aI,aX,bH,bV,bW,bd,aC,bU,zz,F9,Ga] <;> rfl
theorem wT(t:Stp)(M:MemS)(l_:List (Int × Int))(b_:Int):bT t (M.sh l_ b_)=(bT t M).sh l_ b_:=by
 unfold bT
 simp only[aV,aW,aZ,aI,aX,bH,bV,bW,bd,aC,bU,gq,Dt] <;> rfl
theorem JY(t:Stp)(M:MemS)(l_:List (Int × Int))(b_:Int):fj t (M.sh l_ b_)=(fj t M).sh l_ b_:=by
 unfold fj
 simp only[aV,aW,aZ,aI,aX,bH,bV,bW,bd,aC,bU,gq,F7] <;> rfl
theorem JZ(g:Gm)(M:MemS)(l:List (Int × Int))(b:Int):g.step (M.sh l b)=g.step M:=rfl
theorem zA(g:Gm)(M:MemS)(l:List (Int × Int))(b:Int):eT g (M.sh l b)=(eT g M).sh l b:=by
 unfold eT
 simp only[JZ,aV,Dk,JV,F8,Dq,wT,Gb,JY,FY,aX,aI]
theorem Gc(g:Gm)(M:MemS)(l:List (Int × Int))(b:Int):jg g (M.sh l b)=jg g M:=rfl
theorem Bu(g:Gm)(l:List (Int × Int))(b:Int):∀ (n:Nat) (M:MemS),gn g n (M.sh l b)=(gn g n M).sh l b
 | 0,_=>rfl
 | n+1,M=>by rw[gn,gn,kX,kX,zA,bH];exact Bu g l b n _
def Bv(g:Gm):Nat -> MemS -> Nat
 | 0,_=>0
 | f+1,M=>if jg g M=true then 0 else Bv g f (kX g M)+1
theorem Ge{g:Gm}:∀ (m f:Nat) (M:MemS),dQ g (m+1) M -> m<f -> Bv g f M=m
 | m,0,M,_,h=>by omega
 | 0,f+1,M,h,_=>by
  rcases h.2 with ⟨_,e⟩|⟨_,e⟩
  ·rw[Bv,if_pos e]
  ·exact e.elim
 | m+1,f+1,M,h,hf=>by
  rcases h.2 with ⟨e,_⟩|⟨e1,e2⟩
  ·omega
  ·rw[Bv,if_neg (by rw[e1];simp),Ge m f _ e2 (by omega)]
def oh(g:Gm)(M:MemS):MemS:=gn g (Bv g 1000 M+1) M
def PY(g:Gm)(M:MemS):List Eff:=fK g (Bv g 1000 M+1) M
theorem Gf{g g':Gm}(h:GEq g g'):∀ (f:Nat) (M:MemS),Bv g f M=Bv g' f M
 | 0,_=>rfl
 | f+1,M=>by rw[Bv,Bv,FV h,kX,kX,zu h,Gf h f]
theorem Gg{g g':Gm}(h:GEq g g')(M:MemS):oh g M=oh g' M:=by rw[oh,oh,Gf h,Br h]
theorem Gh(g:Gm)(l:List (Int × Int))(b:Int):∀ (f:Nat) (M:MemS),Bv g f (M.sh l b)=Bv g f M
 | 0,_=>rfl
 | f+1,M=>by rw[Bv,Bv,Gc,kX,kX,zA,bH,Gh g l b f]
theorem zB(g:Gm)(M:MemS)(l:List (Int × Int))(b:Int):oh g (M.sh l b)=(oh g M).sh l b:=by rw[oh,oh,Gh,Bu]
theorem qZ(M:MemS):(MemS.sh ⟨M.cs,[],0⟩ M.lg M.base)=M:=by cases M;simp[MemS.sh]
theorem rd(g:Gm){M N:MemS}(h:M.cs=N.cs):(oh g M).cs=(oh g N).cs:=by
 rw[<- qZ M,<- qZ N,zB,zB,h];rfl
def iY(g:Gm):Nat -> MemS -> List (Eff × Bool)
 | 0,_=>[]
 | n+1,M=>((eT g M).e,(eT g M).em)::iY g n (kX g M)
theorem iZ(g:Gm):∀ (n:Nat) (M:MemS),(iY g n M).length=n
 | 0,_=>rfl
 | n+1,M=>by rw[iY,List.length_cons,iZ g n]
def mA:List (Eff × Bool) -> List Eff
 | []=>[]
 | x::l=>(if x.2=true then [x.1] else [])++mA l
theorem wU(g:Gm):∀ (n:Nat) (M:MemS),mA (iY g n M)=fK g n M
 | 0,_=>rfl
 | n+1,M=>by rw[iY,mA,wU g n,fK]
theorem re:∀ (l m:List (Eff × Bool)),mA (l++m)=mA l++mA m
 | [],m=>rfl
 | x::l,m=>by rw[List.cons_append,mA,mA,re l m,List.append_assoc]
theorem wV:∀ (l:List (Eff × Bool)),(mA l).length <= l.length
 | []=>Nat.le_refl _
 | x::l=>by
  have:=wV l
  rw[mA,List.length_append,List.length_cons]
  split
  ·simp;omega
  ·simp;omega
theorem Gi{l:List (Eff × Bool)}{i:Nat}{x:Eff × Bool}(h:l[i]?=some x)(e:x.2=true):mA (l.take (i+1))=mA (l.take i)++[x.1]:=by
 rw[List.take_add_one,h,re]
 show _++((if x.2=true then [x.1] else [])++[])=_
 rw[if_pos e];rfl
theorem J0{l:List (Eff × Bool)}{i:Nat}{x:Eff × Bool}(h:l[i]?=some x)(e:¬ x.2=true):mA (l.take (i+1))=mA (l.take i):=by
 rw[List.take_add_one,h,re]
 show _++((if x.2=true then [x.1] else [])++[])=_
 rw[if_neg e];simp
theorem gK{g:Gm}{l:List (Eff × Bool)}{i r:Nat}{M:MemS}(h:l.drop i=iY g (r+1) M):l[i]?=some ((eT g M).e,(eT g M).em) /\ l.drop (i+1)=iY g r (kX g M):=by
 constructor
 ·have:=congrArg (·[0]?) h
  simpa [iY] using this
 ·have:=congrArg List.tail h
  rwa [List.tail_drop] at this
def vV(cs:List Int)(i:Nat):List Int:=cs.take i++List.replicate (cs.length-i) 0
theorem tN(n:Nat):il [vI 0]=aN (List.replicate n 0):=by
 funext i k
 rcases k with _|k
 ·have:(List.replicate n (0:Int)).getD i 0=0:=by
   rw[List.getD_eq_getElem?_getD,List.getElem?_replicate];split <;> rfl
  show vI 0=vI _
  rw[this]
 ·simp[il,aN]
theorem wW(cs:List Int):il [vI 0]=aN (vV cs 0):=by rw[tN cs.length];simp[vV]
theorem Bw(cs:List Int):vV cs cs.length=cs:=by simp[vV]
theorem wX{cs:List Int}{i:Nat}(h:i<cs.length):db (aN (vV cs i)) i 0 (vI (cs.getD i 0))=aN (vV cs (i+1)):=by
 rw[gE (by simp[vV];omega)]
 congr 1
 unfold vV
 rw[List.set_append_right _ _ (by simp;omega)]
 have e:cs.length-i=(cs.length-(i+1))+1:=by omega
 rw[e,List.replicate_succ,List.take_succ_eq_append_getElem h,List.append_assoc]
 simp[List.length_take,Nat.min_eq_left (Nat.le_of_lt h),h]
theorem MemH.len{mb:Nat}{M:MemS}{k:Nat}{T:HL}(h:MemH mb M k T):M.cs.length <= 1000000:=by
 cases h with
 | mk cb A cap Hl hs hc hl=>exact hc
theorem J1(mb cb n:Nat)(A:Option Addr)(m cap:Nat)(base:Int)(F:HL)(hm:(mb,.lit [vS cb 0 n n,.slice A m cap,vI base] 186 (0,0))∈F):Sp Tryz.prog 65 #[vP mb 0] [] F (λ u H'=>u=vI (n:Int) /\ H'=[]):=by
 refine Sp.run Tryz.func65 rfl (mc hm mn) (A:=[]) (Ts:=[]) rfl λ w0=>?_
 refine ae 15 [.ro 0] λ _=>?_
 exact RN.ret [] [] [] ⟨rfl,rfl⟩
theorem vh{mb:Nat}{M:MemS}{k:Nat}{T:HL}{F:HL}(h:MemH mb M k T)(hs:∀x∈T,x∈F):Sp Tryz.prog 65 #[vP mb 0] [] F (λ u H'=>u=vI (M.cs.length:Int) /\ H'=[]):=by
 cases h with
 | mk cb A cap Hl Uo hc hl=>exact J1 mb cb M.cs.length A M.lg.length cap M.base F (hs _ (by simp))
theorem J3{M:MemS}{i:Nat}(h:i<M.cs.length):M.get (i:Int)=M.cs.getD i 0:=by
 unfold MemS.get
 rw[if_pos (by omega),Int.toNat_natCast]
theorem Du(mb:Nat)(M:MemS)(k:Nat)(T F:HL)(hM:MemH mb M k T)(hT:∀x∈T,x∈F):Sp Tryz.prog 39 #[vP mb 0] (ap [] []) F (λ u H'=>∃q,H'=ap [(q,.rows 1 M.cs.length (aN M.cs) 3 (0,0))] [] /\ u=vS q 0 M.cs.length M.cs.length):=by
 have hl:=hM.len
 refine Sp.run Tryz.func39 rfl mn (A:=[]) (Ts:=[]) rfl λ w0=>?_
 refine ae 8 [] λ _=>RN.cp (vh hM (λ x hx=>List.mem_append_right _ (hT x hx)))<|ai 8 [.mk M.cs.length M.cs.length] [(M.cs.length:Int)=((M.cs.length:Nat):Int) /\ (M.cs.length:Int)=((M.cs.length:Nat):Int) /\ M.cs.length <= M.cs.length /\ 8*M.cs.length <= 140737488355328 /\ 1=1 /\ M.cs.length <= 9223372036854775807] λ n1=>RN.cp (vh hM (λ x hx=>List.mem_append_right _ (hT x hx)))<|ae 4 [] λ _=>cj 0 (congrArg (λ v_=>(.rows 1 M.cs.length v_ 3 (0,0):Blk)) (show (il [vI 0])=(aN (vV M.cs 0)) from (by rw[wW M.cs])))<|RN.loop (σ:=Nat) (λ i=>⟨[(0,vP mb 0),(3,vS (n1+0) 0 M.cs.length M.cs.length),(9,vI (M.cs.length:Int)),(10,vI (i:Int))],[((n1+0),.rows 1 M.cs.length (aN (vV M.cs i)) 3 (0,0))],[],i <= M.cs.length,M.cs.length-i⟩) 0 [0] [] (Nat.zero_le _) ?_
 rintro i YY Ri
 refine ae 6 [] λ _=>RN.em ((i:Int)<(M.cs.length:Int)) 11 (λ h4=>?_) λ h4=>?_
 ·refine ae 16 [] λ _=>RN.cp (aw (i:Int) hM (λ x hx=>List.mem_append_right _ (hT x hx)))<|ai 9 [.ix i,.row 0 i 0,.nw] [aU ((i:Int)+1),(0+i*1)=i*1+0 /\ i<M.cs.length,(i:Int)=((i:Nat):Int) /\ i<M.cs.length] λ _=>cj 0 (congrArg (λ v_=>(.rows 1 M.cs.length v_ 3 (0,0):Blk)) (show (db (aN (vV M.cs i)) i 0 (vI (M.get (i:Int))))=(aN (vV M.cs (i+1))) from (by rw[<- wX (cs:=M.cs) (i:=i) (by omega)];rw[J3 (by omega)]))) ?_
  refine Ri (i+1) [0] [] ?_
  try dsimp only
  exact⟨by omega,by omega⟩
 ·refine ae 12 [] λ _=>RN.ret [] [0] [] (v:=vS (n1+0) 0 M.cs.length M.cs.length) (H':=[((n1+0),.rows 1 M.cs.length (aN (vV M.cs i)) 3 (0,0))]) ?_
  have ei:i=M.cs.length:=by omega
  subst ei
  exact⟨_,by rw[Bw];rfl,rfl⟩
theorem J4(q:Nat)(cs:List Int)(k cap:Nat)(F:HL)(hq:(q,.rows 1 cs.length (aN cs) 3 (0,0))∈F)(hc:cs.length <= 1000000)(hk:k <= 100000000)(hcap:cs.length <= cap):Sp Tryz.prog 63 #[vS q 0 cs.length cap] [] F (λ u H'=>∃x:Nat × HL,H'=ap [] [x.2] /\ (u=vP x.1 0 /\ MemH x.1 ⟨cs,[],0⟩ k x.2)):=by
 refine Sp.run Tryz.func63 rfl (mc hq mn) (A:=[]) (Ts:=[]) rfl λ w0=>?_
 refine ai 24 [.mk cs.length cs.length] [(cs.length:Int)=((cs.length:Nat):Int) /\ (cs.length:Int)=((cs.length:Nat):Int) /\ cs.length <= cs.length /\ 8*cs.length <= 140737488355328 /\ 1=1 /\ cs.length <= 9223372036854775807] λ n1=>cj 1 (congrArg (λ v_=>(.rows 1 cs.length v_ 3 (0,0):Blk)) (show (il [vI 0])=(aN (vV cs 0)) from (by rw[wW cs])))<|RN.loop (σ:=Nat) (λ i=>⟨[(0,vS q 0 cs.length cap),(3,vP (n1+1) 0),(11,vI (cs.length:Int)),(12,vI (i:Int))],[((n1+1),.lit [vS (n1+0) 0 cs.length cs.length,.slice none 0 0,vI 0] 186 (0,0)),((n1+0),.rows 1 cs.length (aN (vV cs i)) 3 (0,0))],[],i <= cs.length,cs.length-i⟩) 0 [0,1] [] (Nat.zero_le _) ?_
 rintro i YY Ri
 refine ae 6 [] λ _=>RN.em ((i:Int)<(cs.length:Int)) 13 (λ h4=>?_) λ h4=>?_
 ·refine ae 11 [] λ _=>RN.draw [10] []<|aG [] [0,4,5,6,1,7,2,8,3,9] [.ix i,.rorow 0 i 0,.own 0,.ix i] [(i:Int)=((i:Nat):Int) /\ i<cs.length,(0+i*1)=i*1+0 /\ i<cs.length,(i:Int)=((i:Nat):Int) /\ i<cs.length]<|RD.one 10 (eC [] [.row 1 i 0] [(0+i*1)=i*1+0 /\ i<cs.length] λ _=>?_)
  refine RD.fin<|ai 6 [.nw] [aU ((i:Int)+1)] λ _=>cj 1 (congrArg (λ v_=>(.rows 1 cs.length v_ 3 (0,0):Blk)) (show (db (aN (vV cs i)) i 0 (vI (cs.getD i 0)))=(aN (vV cs (i+1))) from (by rw[<- wX (cs:=cs) (i:=i) (by omega)]))) ?_
  refine Ri (i+1) [0,1] [] ?_
  try dsimp only
  exact⟨by omega,by omega⟩
 ·refine ae 12 [] λ _=>RN.ret [] [0,1] [] (v:=vP (n1+1) 0) (H':=[((n1+1),.lit [vS (n1+0) 0 cs.length cs.length,.slice none 0 0,vI 0] 186 (0,0)),((n1+0),.rows 1 cs.length (aN (vV cs i)) 3 (0,0))]) ?_
  have ei:i=cs.length:=by omega
  subst ei
  rw[Bw]
  have hmm:=MemH.mk (mb:=(n1+1)) (M:=⟨cs,[],0⟩) (k:=k) (n1+0) none 0 [] (SlIs.nil _ _) hc (show ([]:List (Int × Int)).length+k <= 100000000 by simpa using hk)
  exact⟨((n1+1),_),rfl,rfl,hmm⟩
def au(n Rk:Int):Int:=(if n<0 then bg (0-bg (n+1)) else n).tmod Rk
theorem gt(n:Int)(Rk:Int)(h0:Rk≠0)(F:HL):Sp Tryz.prog 10 #[vI n,vI Rk] [] F (λ u H'=>u=vI (au n Rk) /\ H'=[]):=by
 refine Sp.run Tryz.func10 rfl mn (A:=[]) (Ts:=[]) rfl λ w0=>?_
 refine ae 12 [] λ _=>RN.em (n<0) 6 (λ h1=>?_) λ h1=>?_
 ·refine qN 16 [.gen,.dv] (λ _=>[Rk≠0]) (λ _=>(ac h0 an)) λ _=>RN.ret [] [] [] (v:=vI ((i64.wrap (0-(i64.wrap (n+1)))).tmod Rk)) (H':=[]) ?_
  exact⟨by unfold au;simp[*],rfl⟩
 ·refine qN 11 [.dv] (λ _=>[Rk≠0]) (λ _=>(ac h0 an)) λ _=>RN.ret [] [] [] (v:=vI (n.tmod Rk)) (H':=[]) ?_
  exact⟨by unfold au;simp[*],rfl⟩
def rf(n:Int):Int:=au n 1000
def oX(n:Int):Int:=bg (512*bg (1+(bg ((rf n).tdiv 7)).tmod 5))
def sV(r:Int):List V2:=[⟨bg (0-r),bg (0-r)⟩,⟨r,bg (0-r)⟩,⟨r,r⟩,⟨bg (0-r),r⟩]
def wY(r:Int):List V2:=[⟨bg (0-r),bg (0-r)⟩,⟨r,bg (0-r)⟩,⟨0,r⟩]
def wZ(r:Int):List V2:=[⟨bg (-2*r),-300⟩,⟨bg (2*r),-300⟩,⟨bg (2*r),300⟩,⟨bg (-2*r),300⟩]
def cP(n:Int):Int × List V2:=if (rf n).tmod 7=0 then (oX n,[]) else if (rf n).tmod 7=1 then (oX n,[]) else if (rf n).tmod 7=2 then (oX n,[]) else if (rf n).tmod 7=3 then (0,sV (oX n)) else if (rf n).tmod 7=4 then (0,sV (oX n)) else if (rf n).tmod 7=5 then (0,wY (oX n)) else (0,wZ (oX n))
def ShH(s:Shp)(T:HL):Prop:=∀F,(∀x∈T,x∈F) -> ShIn F s
theorem ShH.circle(r:Int)(A:Option Addr)(cap:Nat):ShH ⟨r,[],A,cap⟩ []:=λ F _=>.circle r A cap
theorem ShH.poly(r:Int)(l:List V2)(b cap:Nat)(h3:3 <= l.length)(h4:l.length <= cap)(h5:l.length <= 1000000):ShH ⟨r,l,some ⟨b,0,none⟩,cap⟩ [(b,.rows 2 cap (jV l) 29 (0,0))]:=λ F h=>.poly r l b cap (h _ (by simp)) h3 h4 h5
theorem xa(n:Int)(F:HL):Sp Tryz.prog 30 #[vI n] [] F (λ u H'=>∃x:Option Addr × Nat × HL,H'=ap [] [x.2.2] /\ (u=NT ⟨(cP n).1,(cP n).2,x.1,x.2.1⟩ /\ ShH ⟨(cP n).1,(cP n).2,x.1,x.2.1⟩ x.2.2)):=by
 refine Sp.run Tryz.func30 rfl mn (A:=[]) (Ts:=[]) rfl λ w0=>?_
 refine ae 8 [] λ n1=>RN.cp (gt n 1000 (by decide) _)<|ae 28 [] λ _=>RN.em ((rf n).tmod 7=0) 14 (λ h2=>?_) λ h2=>?_
 ·refine ae 11 [.own 0,.own 0] λ _=>RN.ret [.own 0,.own 0] [] [] (v:=.agg #[vI (i64.wrap (512*(i64.wrap (1+((i64.wrap ((rf n).tdiv 7)).tmod 5))))),.slice none 0 0]) (H':=[]) ?_
  have e:cP n=(oX n,[]):=by simp only[cP,if_pos h2]
  rw[e]
  exact⟨(none,0,[]),rfl,rfl,ShH.circle _ _ _⟩
 ·refine ae 7 [] λ _=>RN.em ((rf n).tmod 7=1) 14 (λ h3=>?_) λ h3=>?_
  ·refine ae 11 [.own 0,.own 0] λ _=>RN.ret [.own 0,.own 0] [] [] (v:=.agg #[vI (i64.wrap (512*(i64.wrap (1+((i64.wrap ((rf n).tdiv 7)).tmod 5))))),.slice none 0 0]) (H':=[]) ?_
   have e:cP n=(oX n,[]):=by simp only[cP,if_neg h2,if_pos h3]
   rw[e]
   exact⟨(none,0,[]),rfl,rfl,ShH.circle _ _ _⟩
  ·refine ae 6 [] λ _=>RN.em ((rf n).tmod 7=2) 14 (λ h4=>?_) λ h4=>?_
   ·refine ae 8 [.own 0,.own 0] λ _=>RN.ret [.own 0,.own 0] [] [] (v:=.agg #[vI (i64.wrap (512*(i64.wrap (1+((i64.wrap ((rf n).tdiv 7)).tmod 5))))),.slice none 0 0]) (H':=[]) ?_
    have e:cP n=(oX n,[]):=by simp only[cP,if_neg h2,if_neg h3,if_pos h4]
    rw[e]
    exact⟨(none,0,[]),rfl,rfl,ShH.circle _ _ _⟩
   ·refine ae 8 [] λ _=>RN.em ((rf n).tmod 7=3) 20 (λ h5=>?_) λ h5=>?_
    ·refine ae 27 [.own 1,.own 1] λ n6=>RN.dn 0 (.rows 2 4 (jV (sV (oX n))) 29 (0,0))<|RN.ret [.own 1,.own 1] [0] [] (v:=.agg #[vI 0,vS (n6+0) 0 4 4]) (H':=[((n6+0),.rows 2 4 (jV (sV (oX n))) 29 (0,0))]) ?_
     have e:cP n=(0,sV (oX n)):=by simp only[cP,if_neg h2,if_neg h3,if_neg h4,if_pos h5]
     rw[e]
     exact⟨(some ⟨(n6+0),0,none⟩,4,_),rfl,rfl,ShH.poly 0 (sV (oX n)) (n6+0) 4 (Nat.le_of_ble_eq_true rfl) (Nat.le_of_ble_eq_true rfl) (Nat.le_of_ble_eq_true rfl)⟩
    ·refine ae 6 [] λ _=>RN.em ((rf n).tmod 7=4) 20 (λ h7=>?_) λ h7=>?_
     ·refine ae 24 [.own 1,.own 1] λ n8=>RN.dn 0 (.rows 2 4 (jV (sV (oX n))) 29 (0,0))<|RN.ret [.own 1,.own 1] [0] [] (v:=.agg #[vI 0,vS (n8+0) 0 4 4]) (H':=[((n8+0),.rows 2 4 (jV (sV (oX n))) 29 (0,0))]) ?_
      have e:cP n=(0,sV (oX n)):=by simp only[cP,if_neg h2,if_neg h3,if_neg h4,if_neg h5,if_pos h7]
      rw[e]
      exact⟨(some ⟨(n8+0),0,none⟩,4,_),rfl,rfl,ShH.poly 0 (sV (oX n)) (n8+0) 4 (Nat.le_of_ble_eq_true rfl) (Nat.le_of_ble_eq_true rfl) (Nat.le_of_ble_eq_true rfl)⟩
     ·refine ae 7 [] λ _=>RN.em ((rf n).tmod 7=5) 41 (λ h9=>?_) λ h9=>?_
      ·refine ae 19 [.own 1,.own 1] λ Sg=>RN.dn 0 (.rows 2 3 (jV (wY (oX n))) 29 (0,0))<|RN.ret [.own 1,.own 1] [0] [] (v:=.agg #[vI 0,vS (Sg+0) 0 3 3]) (H':=[((Sg+0),.rows 2 3 (jV (wY (oX n))) 29 (0,0))]) ?_
       have e:cP n=(0,wY (oX n)):=by simp only[cP,if_neg h2,if_neg h3,if_neg h4,if_neg h5,if_neg h7,if_pos h9]
       rw[e]
       exact⟨(some ⟨(Sg+0),0,none⟩,3,_),rfl,rfl,ShH.poly 0 (wY (oX n)) (Sg+0) 3 (Nat.le_of_ble_eq_true rfl) (Nat.le_of_ble_eq_true rfl) (Nat.le_of_ble_eq_true rfl)⟩
      ·refine ae 23 [.own 1,.own 1] λ n11=>RN.dn 0 (.rows 2 4 (jV (wZ (oX n))) 29 (0,0))<|RN.ret [.own 1,.own 1] [0] [] (v:=.agg #[vI 0,vS (n11+0) 0 4 4]) (H':=[((n11+0),.rows 2 4 (jV (wZ (oX n))) 29 (0,0))]) ?_
       have e:cP n=(0,wZ (oX n)):=by simp only[cP,if_neg h2,if_neg h3,if_neg h4,if_neg h5,if_neg h7,if_neg h9]
       rw[e]
       exact⟨(some ⟨(n11+0),0,none⟩,4,_),rfl,rfl,ShH.poly 0 (wZ (oX n)) (n11+0) 4 (Nat.le_of_ble_eq_true rfl) (Nat.le_of_ble_eq_true rfl) (Nat.le_of_ble_eq_true rfl)⟩
theorem oY{S:Setup}(h:SetN S){i:Nat}(hi:i<S.nb):0 <= af S i /\ af S i+8 <= sizeOf S /\ sizeOf S <= 20000000:=by
 have:=h.pl
 have:=h.nb
 unfold af sizeOf
 rw[if_neg (by omega),if_neg (by omega)]
 omega
theorem Dv{S:Setup}(h:SetN S):48 <= sizeOf S /\ sizeOf S <= 20000000:=by
 have:=h.pl
 have:=h.nb
 unfold sizeOf
 omega
def eS(S:Setup):Nat -> List Int
 | 0=>List.replicate (sizeOf S).toNat 0
 | i+1=>((((((eS S i).set (af S i).toNat (S.body i).mot.px).set (af S i+1).toNat (S.body i).mot.py).set (af S i+2).toNat (S.body i).mot.vx).set (af S i+3).toNat (S.body i).mot.vy).set (af S i+4).toNat (S.body i).a).set (af S i+5).toNat (S.body i).b
theorem gL(S:Setup):∀i,(eS S i).length=(sizeOf S).toNat
 | 0=>by simp[eS]
 | i+1=>by simp[eS,gL S i]
theorem Dw{S:Setup}(h:SetN S){i:Nat}(hi:i<S.nb):db (db (db (db (db (db (aN (eS S i)) (af S i).toNat 0 (vI (S.body i).mot.px)) (af S i+1).toNat 0 (vI (S.body i).mot.py)) (af S i+2).toNat 0 (vI (S.body i).mot.vx)) (af S i+3).toNat 0 (vI (S.body i).mot.vy)) (af S i+4).toNat 0 (vI (S.body i).a)) (af S i+5).toNat 0 (vI (S.body i).b)=aN (eS S (i+1)):=by
 have:=oY h hi
 rw[gE,gE,gE,gE,gE,gE,eS] <;> (simp only[List.length_set,gL];omega)
open Go.Shelf
section
variable {r:Option Nat} {P:Program} {N:Nat} {D:List Deferred} {F:HL} {w0:World} {R:HL} {s:Cfg} {Q:Exit -> Act -> World -> Prop}
variable {α:Type} {e:Enc α} {T:TypeId} {inf:TypeInfo} {z:Value}
def xb(P:Program)(N j:Nat)(oo:Option Oper)(s:Cfg):Option (Option Addr × Nat × Nat × TypeId × Option Addr × Nat × Nat × TypeId × HL):=match oo with
 | some o=>match Jw P o s.L,s.Ts[j]?,([j]++oth [j] s.Ts.length).isPerm (List.range s.Ts.length) && (fg N o.dst undef s.L).isSome with
  | some (A,n,cap,T,B,m,c',tx),some Hl,true=>some (A,n,cap,T,B,m,c',tx,Hl)
  | _,_,_=>none
 | none=>none
theorem m5{j:Nat}{oo:Option Oper}{A:Option Addr}{n cap m c':Nat}{B:Option Addr}{tx:TypeId}{Hl:HL}(h:xb P N j oo s=some (A,n,cap,T,B,m,c',tx,Hl)) :
  ∃o a1 a2 t e',oo=some o /\ o.guard=none /\ o.op=.call { callee:=.builtin .append,args:=#[a1,a2],argTypes:=#[t,tx] } /\ (kR s.L a1 && kR s.L a2)=true /\ ik s.L a1=.slice A n cap /\ ik s.L a2=.slice B m c' /\ P.underlying t=some (.slice T) /\ P.underlying tx=some (.slice e') /\
   s.Ts[j]?=some Hl /\ ([j]++oth [j] s.Ts.length).isPerm (List.range s.Ts.length)=true /\ (fg N o.dst undef s.L).isSome=true:=by
 unfold xb at h
 split at h
 case h_2=>cases h
 rename_i o
 split at h
 case h_2=>cases h
 rename_i A' n' bY T' B' m' c2 Zk H_ h1 h3 h4
 simp only[Option.some.injEq,Prod.mk.injEq] at h
 obtain⟨e1,e2,e3,e4,e5,e6,e7,e8,e9⟩:=h
 subst e1;subst e2;subst e3;subst e4;subst e5;subst e6;subst e7;subst e8;subst e9
 obtain⟨a1,a2,t,e',q1,q2,q3,q4,q5,q6,q7⟩:=tw h1
 rw[Bool.and_eq_true] at h4
 exact⟨o,a1,a2,t,e',rfl,q1,q2,q3,q4,q5,q6,q7,h3,h4.1,h4.2⟩
end
end Go.Proofs.YtgdcbiiopbpgaaaGreatDoor
