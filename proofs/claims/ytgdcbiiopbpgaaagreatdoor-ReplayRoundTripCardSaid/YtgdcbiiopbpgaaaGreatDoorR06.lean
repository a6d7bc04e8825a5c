import Derived.Test.YtgdcbiiopbpgaaaGreatDoorR05
import Derived.Test.YtgdcbiiopbpgaaaGreatDoorR03
import Derived.Test.YtgdcbiiopbpgaaaGreatDoorR02
set_option maxHeartbeats 4000000
set_option maxRecDepth 100000
set_option linter.unusedSimpArgs false
set_option linter.unusedVariables false
namespace Go.Proofs.YtgdcbiiopbpgaaaGreatDoor
open IntKind
open Go.RowKit
def sF(t:Stp)(M:MemS):Con × Bool:=cy (t.S.body t.i.toNat).sh ⟨(ao t.S M t.i).px,(ao t.S M t.i).py⟩ (t.S.body t.j.toNat).sh ⟨(ao t.S M t.j).px,(ao t.S M t.j).py⟩
def wp(t:Stp)(M:MemS):Mot × Mot:=cz (ao t.S M t.i) (ao t.S M t.j) (sF t M).1 t.S.rest
def gH(t:Stp)(M:MemS):MemS:=((dN t t.j (wp t M).2 (dN t t.i (wp t M).1 M)).set (af t.S t.i+6) (aZ (t.j+1))).set (af t.S t.j+6) (aZ (t.i+1))
def dT(t:Stp)(M:MemS):MemS:=if 0 <= t.i /\ t.i<t.S.nb then if 0 <= t.j /\ t.j<t.S.nb then if (sF t M).2=true then gH t M else M else M else M
def sG(t:Stp)(M:MemS):Int:=my (t.S.body t.i.toNat).sh ⟨(ao t.S M t.i).px,(ao t.S M t.i).py⟩ ⟨(ao t.S M t.i).vx,(ao t.S M t.i).vy⟩ (t.S.body t.j.toNat).sh ⟨(ao t.S M t.j).px,(ao t.S M t.j).py⟩ ⟨0,0⟩
def fc(t:Stp)(M:MemS):MemS:=if t.i=t.j then M else if movP t.S t.i then (if sG t M<M.get 5 then M.set 5 (sG t M) else M) else M
def fT(t:Stp)(M:MemS):MemS:=if aZ (t.i+1)<t.S.nb then ((M.set 2 (aZ (t.i+1))).set 3 0).set 5 1024 else (aL t 6 0 M).set 5 0
def dX(t:Stp)(M:MemS):MemS:=if 0 <= t.j /\ t.j<t.S.nb then (fc t M).set 3 (aZ (t.j+1)) else fT t (if movP t.S t.i then di t M else M)
def dm(i j n r:Int):Int × Int × Int:=if aZ (j+1)<n then (r,i,aZ (j+1)) else if aZ (i+2)<n then (r,aZ (i+1),aZ (i+2)) else (aZ (r+1),0,1)
def bQ(t:Stp)(M:MemS):MemS:=if (t.S.nb:Int)<2 then (aL t 5 0 M).set 5 1024 else if M.get 4 >= t.S.rounds then (aL t 5 0 M).set 5 1024 else (((dT t M).set 4 (dm t.i t.j t.S.nb (M.get 4)).1).set 2 (dm t.i t.j t.S.nb (M.get 4)).2.1).set 3 (dm t.i t.j t.S.nb (M.get 4)).2.2
theorem zg(t:Stp)  (tb mb:Nat) (M:MemS) (k:Nat) (T F:HL) (hM:MemH mb M (k+10) T) (hS:SetIn F t.S) :Sp Tryz.prog 192 #[vP tb 0] (ap [(tb,.lit (Stp.l t mb) 275 (0,0))] [T]) F (λ u H'=>∃x,H'=ap [(tb,.lit (Stp.l t mb) 275 (0,0))] [x] /\ (MemH mb (dT t M) k x)):=by
 have hp:=hS.pl
 have hn:=hS.nb
 have hr:=hS.room
 refine Sp.run Tryz.func192 rfl (mc hS.blk mn) (A:=[(tb,.lit (Stp.l t mb) 275 (0,0))]) (Ts:=[T]) rfl λ w0=>?_
 refine ae 8 [.own 0] λ _=>RN.cp (qg t t.i tb mb _ (av 0))<|ae 2 [] λ _=>RN.en (0 <= t.i /\ t.i<t.S.nb) 13 (λ h1=>?_) λ h1=>?_
 ·refine ae 5 [.own 0] λ _=>RN.cp (qg t t.j tb mb _ (av 0))<|ae 4 [] λ _=>RN.en (0 <= t.j /\ t.j<t.S.nb) 21 (λ h2=>?_) λ h2=>?_
  ·refine ae 4 [] λ _=>RN.draw [14,15] []<|ag [] [0,1,6,7,2,8,3,9,4,10] [.own 0,.own 0]<|RD.cp [] 5 (λ X_=>(fE t t.i tb mb M _ T _ (jD 0) hS.up.up hM (aR 0) h1))<|RD.cp [] 11 (λ X_=>(fE t t.j tb mb M _ T _ (jD 0) hS.up.up hM (aR 0) h2))<|jQ (σ:=Nat × Nat) (λ ⟨n3,n4⟩=>⟨[(0,vP tb 0),(2,vP (n3+0) 0),(3,vP (n4+0) 0)],[((n4+0),.lit [vI ((ao t.S M t.j).px),vI ((ao t.S M t.j).py),vI ((ao t.S M t.j).vx),vI ((ao t.S M t.j).vy),vI ((ao t.S M t.j).inv)] 76 (0,0)),((n3+0),.lit [vI ((ao t.S M t.i).px),vI ((ao t.S M t.i).py),vI ((ao t.S M t.i).vx),vI ((ao t.S M t.i).vy),vI ((ao t.S M t.i).inv)] 76 (0,0)),(tb,.lit (Stp.l t mb) 275 (0,0))],[T],True,0⟩) ?_ ?_
   ·rintro⟨n3,n4⟩
    refine ae 2 [] λ _=>RN.draw [33] [0,1,2]<|aC [0,1,2] [0,5,12,14,19,26,1,6,13,15,20,27,2,7,16,21,3,8,17,22,4,18,9,23,10,24,11,25] [.own 1,.own 1,.own 0,.own 0,.own 2,.own 2,.own 2,.own 2,.ix ((t.i).toNat),.ix ((t.j).toNat),.rorow 0 (t.S.bo+((t.i).toNat)) 0,.rorow 0 (t.S.bo+((t.i).toNat)) 1,.rorow 0 (t.S.bo+((t.j).toNat)) 0,.rorow 0 (t.S.bo+((t.j).toNat)) 1] [((t.S.bo * 9+((t.j).toNat) * 9)+1)=(t.S.bo+((t.j).toNat)) * 9+1 /\ (t.S.bo+((t.j).toNat))<t.S.bR,(t.S.bo * 9+((t.j).toNat) * 9)=(t.S.bo+((t.j).toNat)) * 9+0 /\ (t.S.bo+((t.j).toNat))<t.S.bR,((t.S.bo * 9+((t.i).toNat) * 9)+1)=(t.S.bo+((t.i).toNat)) * 9+1 /\ (t.S.bo+((t.i).toNat))<t.S.bR,(t.S.bo * 9+((t.i).toNat) * 9)=(t.S.bo+((t.i).toNat)) * 9+0 /\ (t.S.bo+((t.i).toNat))<t.S.bR,t.j=(((t.j).toNat:Nat):Int) /\ (t.j).toNat<t.S.nb,t.i=(((t.i).toNat:Nat):Int) /\ (t.i).toNat<t.S.nb]<|RD.cp [0,1,2] 28 (λ X_=>(pE (t.S.bods.getD (t.S.bo+((t.i).toNat)) dB).sh (⟨(ao t.S M t.i).px,(ao t.S M t.i).py⟩:V2) (t.S.bods.getD (t.S.bo+((t.j).toNat)) dB).sh (⟨(ao t.S M t.j).px,(ao t.S M t.j).py⟩:V2) _ ((hS.shp ((t.i).toNat) (by omega)).up.up) ((hS.shp ((t.j).toNat) (by omega)).up.up)))<|ag [0,1,2] [29,30,31] []<|RD.one 32 (RDO.ev [] [] λ n6=>?_)
    refine RD.one 33 (RDO.ev [1,2,3] [.own 0,.own 0,.own 0] λ _=>?_)
    refine ag [1,2,3] [34] []<|RD.fin<|ae 8 [] λ _=>s8 ((cy (t.S.bods.getD (t.S.bo+((t.i).toNat)) dB).sh (⟨(ao t.S M t.i).px,(ao t.S M t.i).py⟩:V2) (t.S.bods.getD (t.S.bo+((t.j).toNat)) dB).sh (⟨(ao t.S M t.j).px,(ao t.S M t.j).py⟩:V2)).2) 67 (λ h7=>?_) λ h7=>?_
    ·refine ae 4 [] λ _=>RN.draw [12,13] [0,3]<|ag [0,3] [0,1,2,3,4,5,6,7] (ow 2 5++ow 1 5++[.own 0,.own 0,.own 0,.own 3])<|RD.cp [0,3] 8 (λ X_=>(wo (ao t.S M t.i) (ao t.S M t.j) (cy (t.S.bods.getD (t.S.bo+((t.i).toNat)) dB).sh (⟨(ao t.S M t.i).px,(ao t.S M t.i).py⟩:V2) (t.S.bods.getD (t.S.bo+((t.j).toNat)) dB).sh (⟨(ao t.S M t.j).px,(ao t.S M t.j).py⟩:V2)).1 t.S.rest _))<|ag [0,3] [9,10,11] []<|RD.one 12 (RDO.ev [0,3] (ow 2 5) λ _=>?_)
     refine RD.one 13 (RDO.ev [0,3] (ow 1 5) λ _=>?_)
     refine RD.fin<|ae 2 [] λ _=>RN.draw [6] []<|ag [] [0,1,5,2,3,4] (ow 2 5++[.own 3])<|RD.one 6 (RDO.ct [] [3] [0] (mw t t.i ((cz (ao t.S M t.i) (ao t.S M t.j) (cy (t.S.bods.getD (t.S.bo+((t.i).toNat)) dB).sh (⟨(ao t.S M t.i).px,(ao t.S M t.i).py⟩:V2) (t.S.bods.getD (t.S.bo+((t.j).toNat)) dB).sh (⟨(ao t.S M t.j).px,(ao t.S M t.j).py⟩:V2)).1 t.S.rest).1) tb mb M (k+6) T _ hM hS.up ) ?_)
     rintro _ T8 UB
     refine RD.fin<|ae 2 [] λ _=>RN.draw [6] []<|ag [] [0,1,5,2,3,4] (ow 2 5++[.own 0])<|RD.one 6 (RDO.ct [] [0] [0] (mw t t.j ((cz (ao t.S M t.i) (ao t.S M t.j) (cy (t.S.bods.getD (t.S.bo+((t.i).toNat)) dB).sh (⟨(ao t.S M t.i).px,(ao t.S M t.i).py⟩:V2) (t.S.bods.getD (t.S.bo+((t.j).toNat)) dB).sh (⟨(ao t.S M t.j).px,(ao t.S M t.j).py⟩:V2)).1 t.S.rest).2) tb mb (dN t t.i ((cz (ao t.S M t.i) (ao t.S M t.j) (cy (t.S.bods.getD (t.S.bo+((t.i).toNat)) dB).sh (⟨(ao t.S M t.i).px,(ao t.S M t.i).py⟩:V2) (t.S.bods.getD (t.S.bo+((t.j).toNat)) dB).sh (⟨(ao t.S M t.j).px,(ao t.S M t.j).py⟩:V2)).1 t.S.rest).1) M) (k+2) T8 _ UB hS.up ) ?_)
     rintro _ Tu Rj
     refine RD.fin<|ae 2 [] λ _=>RN.draw [21] []<|ag [] [0,4,8,14,1,5,9,15,2,6,10,16,3,7,11,17,18,19,20] (ow 0 19)<|RD.cp [] 12 (λ X_=>(cL t.S t.i _ hS.toSetN)) ?_
     have hb12:=cK hS.toSetN t.i
     refine aC [] [13] [.nw] [aS ((af t.S t.i)+6)]<|RD.one 21 (RDO.ct [] [] [0] (aj ((af t.S t.i)+6) (i64.wrap (t.j+1)) Rj) ?_)
     rintro _ Td Sa
     refine RD.fin<|ae 1 [] λ _=>RN.draw [21] []<|ag [] [0,4,8,14,1,5,9,15,2,6,10,16,3,7,11,17,18,19,20] (ow 0 19)<|RD.cp [] 12 (λ X_=>(cL t.S t.j _ hS.toSetN)) ?_
     have hb15:=cK hS.toSetN t.j
     refine aC [] [13] [.nw] [aS ((af t.S t.j)+6)]<|RD.one 21 (RDO.ct [] [] [0] (aj ((af t.S t.j)+6) (i64.wrap (t.i+1)) Sa) ?_)
     rintro _ Tt TQ
     refine RD.fin<|RN.ret [] [0] [0] (v:=.tuple #[]) (H':=(ap [(tb,.lit (Stp.l t mb) 275 (0,0))] [Tt])) ?_
     refine⟨Tt,rfl,?_⟩
     have e:dT t M=(((dN t t.j ((cz (ao t.S M t.i) (ao t.S M t.j) (cy (t.S.bods.getD (t.S.bo+((t.i).toNat)) dB).sh (⟨(ao t.S M t.i).px,(ao t.S M t.i).py⟩:V2) (t.S.bods.getD (t.S.bo+((t.j).toNat)) dB).sh (⟨(ao t.S M t.j).px,(ao t.S M t.j).py⟩:V2)).1 t.S.rest).2) (dN t t.i ((cz (ao t.S M t.i) (ao t.S M t.j) (cy (t.S.bods.getD (t.S.bo+((t.i).toNat)) dB).sh (⟨(ao t.S M t.i).px,(ao t.S M t.i).py⟩:V2) (t.S.bods.getD (t.S.bo+((t.j).toNat)) dB).sh (⟨(ao t.S M t.j).px,(ao t.S M t.j).py⟩:V2)).1 t.S.rest).1) M)).set ((af t.S t.i)+6) (i64.wrap (t.j+1))).set ((af t.S t.j)+6) (i64.wrap (t.i+1))):=by
      unfold dT
      rw[if_pos (show 0 <= t.i /\ t.i<t.S.nb from h1),if_pos (show 0 <= t.j /\ t.j<t.S.nb from h2),if_pos (show (sF t M).2=true from h7)]
      first|done|rfl
     rw[e]
     exact TQ.weak (by omega)
    ·refine ae 1 [] λ _=>RN.ret [] [3] [0] (v:=.tuple #[]) (H':=(ap [(tb,.lit (Stp.l t mb) 275 (0,0))] [T])) ?_
     refine⟨T,rfl,?_⟩
     have e:dT t M=M:=by
      unfold dT
      rw[if_pos (show 0 <= t.i /\ t.i<t.S.nb from h1),if_pos (show 0 <= t.j /\ t.j<t.S.nb from h2),if_neg (show ¬ ((sF t M).2=true) from h7)]
      first|done|rfl
     rw[e]
     exact hM.weak (by omega)
   ·intro Xh
    refine fQ 12 13 ?_ ?_
    ·refine RDO.ev [] [] λ n19=>RD.one 13 (RDO.ev [] [] λ XU=>?_)
     refine RD.one 14 (RDO.ev [] (ow 1 5) λ _=>?_)
     refine RD.one 15 (RDO.ev [] (ow 0 5) λ _=>?_)
     exact Xh ⟨n19,XU⟩ [0,1,2] [0]
    ·refine RDO.ev [] [] λ QX=>RD.one 12 (RDO.ev [] [] λ n22=>?_)
     refine RD.one 14 (RDO.ev [] (ow 0 5) λ _=>?_)
     refine RD.one 15 (RDO.ev [] (ow 1 5) λ _=>?_)
     exact Xh ⟨n22,QX⟩ [1,0,2] [0]
  ·refine ae 1 [] λ _=>RN.ret [] [0] [0] (v:=.tuple #[]) (H':=(ap [(tb,.lit (Stp.l t mb) 275 (0,0))] [T])) ?_
   refine⟨T,rfl,?_⟩
   have e:dT t M=M:=by
    unfold dT
    rw[if_pos (show 0 <= t.i /\ t.i<t.S.nb from h1),if_neg (show ¬ (0 <= t.j /\ t.j<t.S.nb) from h2)]
    first|done|rfl
   rw[e]
   exact hM.weak (by omega)
 ·refine ae 11 [] λ _=>RN.ret [] [0] [0] (v:=.tuple #[]) (H':=(ap [(tb,.lit (Stp.l t mb) 275 (0,0))] [T])) ?_
  refine⟨T,rfl,?_⟩
  have e:dT t M=M:=by
   unfold dT
   rw[if_neg (show ¬ (0 <= t.i /\ t.i<t.S.nb) from h1)]
   first|done|rfl
  rw[e]
  exact hM.weak (by omega)
theorem CS(t:Stp)  (tb mb:Nat) (M:MemS) (k:Nat) (T F:HL) (hM:MemH mb M (k+1) T) (hS:SetIn F t.S) (hj:0 <= t.j /\ t.j<t.S.nb):Sp Tryz.prog 195 #[vP tb 0] (ap [(tb,.lit (Stp.l t mb) 275 (0,0))] [T]) F (λ u H'=>∃x,H'=ap [(tb,.lit (Stp.l t mb) 275 (0,0))] [x] /\ (MemH mb (fc t M) k x)):=by
 have hp:=hS.pl
 have hn:=hS.nb
 have hr:=hS.room
 refine Sp.run Tryz.func195 rfl (mc hS.blk mn) (A:=[(tb,.lit (Stp.l t mb) 275 (0,0))]) (Ts:=[T]) rfl λ w0=>?_
 refine ae 2 [] λ _=>RN.draw [] []<|ag [] [0,4,1,5,2,6,3,7,8,9] [.own 0,.own 0]<|RD.em (t.i=t.j) 14 (λ h1=>?_) λ h1=>?_
 ·refine ag [] [10,11,12,13,14,15,16,17] []<|RD.fin<|ae 2 [] λ _=>RN.ret [] [0] [0] (v:=.tuple #[]) (H':=(ap [(tb,.lit (Stp.l t mb) 275 (0,0))] [T])) ?_
  refine⟨T,rfl,?_⟩
  have e:fc t M=M:=by
   unfold fc
   rw[if_pos (show t.i=t.j from h1)]
   first|done|rfl
  rw[e]
  exact hM.weak (by omega)
 ·refine ag [] [10,11,12,13,14] [.own 0]<|RD.cp [] 15 (λ X_=>(jn t t.i tb mb _ (jD 0) hS.up.up))<|ag [] [16,17] []<|RD.fin<|ae 1 [] λ _=>RN.en (movP t.S t.i) 22 (λ h2=>?_) λ h2=>?_
  ·have:=movP.has h2
   refine ae 4 [] λ _=>RN.draw [14,15] []<|ag [] [0,1,6,7,2,8,3,9,4,10] [.own 0,.own 0]<|RD.cp [] 5 (λ X_=>(fE t t.i tb mb M _ T _ (jD 0) hS.up.up hM (aR 0) (movP.has h2)))<|RD.cp [] 11 (λ X_=>(fE t t.j tb mb M _ T _ (jD 0) hS.up.up hM (aR 0) hj))<|jQ (σ:=Nat × Nat) (λ ⟨n3,n4⟩=>⟨[(0,vP tb 0),(2,vP (n3+0) 0),(3,vP (n4+0) 0)],[((n4+0),.lit [vI ((ao t.S M t.j).px),vI ((ao t.S M t.j).py),vI ((ao t.S M t.j).vx),vI ((ao t.S M t.j).vy),vI ((ao t.S M t.j).inv)] 76 (0,0)),((n3+0),.lit [vI ((ao t.S M t.i).px),vI ((ao t.S M t.i).py),vI ((ao t.S M t.i).vx),vI ((ao t.S M t.i).vy),vI ((ao t.S M t.i).inv)] 76 (0,0)),(tb,.lit (Stp.l t mb) 275 (0,0))],[T],True,0⟩) ?_ ?_
   ·rintro⟨n3,n4⟩
    refine ae 2 [] λ _=>RN.draw [] []<|aC [] [0,5,12,14,16,21,28,30,1,6,13,15,17,22,29,2,7,18,23,3,8,19,24,4,20,9,25,10,26,11,27] [.own 1,.own 1,.own 1,.own 1,.own 0,.own 0,.own 2,.own 2,.own 2,.own 2,.ix ((t.i).toNat),.ix ((t.j).toNat),.rorow 0 (t.S.bo+((t.i).toNat)) 0,.rorow 0 (t.S.bo+((t.i).toNat)) 1,.rorow 0 (t.S.bo+((t.j).toNat)) 0,.rorow 0 (t.S.bo+((t.j).toNat)) 1] [((t.S.bo * 9+((t.j).toNat) * 9)+1)=(t.S.bo+((t.j).toNat)) * 9+1 /\ (t.S.bo+((t.j).toNat))<t.S.bR,(t.S.bo * 9+((t.j).toNat) * 9)=(t.S.bo+((t.j).toNat)) * 9+0 /\ (t.S.bo+((t.j).toNat))<t.S.bR,((t.S.bo * 9+((t.i).toNat) * 9)+1)=(t.S.bo+((t.i).toNat)) * 9+1 /\ (t.S.bo+((t.i).toNat))<t.S.bR,(t.S.bo * 9+((t.i).toNat) * 9)=(t.S.bo+((t.i).toNat)) * 9+0 /\ (t.S.bo+((t.i).toNat))<t.S.bR,t.j=(((t.j).toNat:Nat):Int) /\ (t.j).toNat<t.S.nb,t.i=(((t.i).toNat:Nat):Int) /\ (t.i).toNat<t.S.nb]<|RD.cp [] 31 (λ X_=>(uK (t.S.bods.getD (t.S.bo+((t.i).toNat)) dB).sh (⟨(ao t.S M t.i).px,(ao t.S M t.i).py⟩:V2) (⟨(ao t.S M t.i).vx,(ao t.S M t.i).vy⟩:V2) (t.S.bods.getD (t.S.bo+((t.j).toNat)) dB).sh (⟨(ao t.S M t.j).px,(ao t.S M t.j).py⟩:V2) (⟨0,0⟩:V2) _ ((hS.shp ((t.i).toNat) (by omega)).up.up) ((hS.shp ((t.j).toNat) (by omega)).up.up)))<|ag [] [32] []<|RD.fin<|ae 8 [.own 2] λ _=>RN.cp (aw 5 hM (aq 0))<|ae 3 [] λ _=>RN.em (my (t.S.bods.getD (t.S.bo+((t.i).toNat)) dB).sh (⟨(ao t.S M t.i).px,(ao t.S M t.i).py⟩:V2) (⟨(ao t.S M t.i).vx,(ao t.S M t.i).vy⟩:V2) (t.S.bods.getD (t.S.bo+((t.j).toNat)) dB).sh (⟨(ao t.S M t.j).px,(ao t.S M t.j).py⟩:V2) (⟨0,0⟩:V2)<M.get 5) 73 (λ h5=>?_) λ h5=>?_
    ·refine ae 7 [.own 2] λ _=>RN.ct [] [0] (aj 5 (my (t.S.bods.getD (t.S.bo+((t.i).toNat)) dB).sh (⟨(ao t.S M t.i).px,(ao t.S M t.i).py⟩:V2) (⟨(ao t.S M t.i).vx,(ao t.S M t.i).vy⟩:V2) (t.S.bods.getD (t.S.bo+((t.j).toNat)) dB).sh (⟨(ao t.S M t.j).px,(ao t.S M t.j).py⟩:V2) (⟨0,0⟩:V2)) hM) ?_
     rintro _ T6 WQ
     refine ae 1 [] λ _=>RN.ret [] [2] [0] (v:=.tuple #[]) (H':=(ap [(tb,.lit (Stp.l t mb) 275 (0,0))] [T6])) ?_
     refine⟨T6,rfl,?_⟩
     have e:fc t M=(M.set 5 (my (t.S.bods.getD (t.S.bo+((t.i).toNat)) dB).sh (⟨(ao t.S M t.i).px,(ao t.S M t.i).py⟩:V2) (⟨(ao t.S M t.i).vx,(ao t.S M t.i).vy⟩:V2) (t.S.bods.getD (t.S.bo+((t.j).toNat)) dB).sh (⟨(ao t.S M t.j).px,(ao t.S M t.j).py⟩:V2) (⟨0,0⟩:V2))):=by
      unfold fc
      rw[if_neg (show ¬ (t.i=t.j) from h1),if_pos (show movP t.S t.i from h2),if_pos (show sG t M<M.get 5 from h5)]
      first|done|rfl
     rw[e]
     exact WQ.weak (by omega)
    ·refine ae 2 [] λ _=>RN.ret [] [2] [0] (v:=.tuple #[]) (H':=(ap [(tb,.lit (Stp.l t mb) 275 (0,0))] [T])) ?_
     refine⟨T,rfl,?_⟩
     have e:fc t M=M:=by
      unfold fc
      rw[if_neg (show ¬ (t.i=t.j) from h1),if_pos (show movP t.S t.i from h2),if_neg (show ¬ (sG t M<M.get 5) from h5)]
      first|done|rfl
     rw[e]
     exact hM.weak (by omega)
   ·intro UX
    refine fQ 12 13 ?_ ?_
    ·refine RDO.ev [] [] λ n9=>RD.one 13 (RDO.ev [] [] λ R3=>?_)
     refine RD.one 14 (RDO.ev [] (ow 1 5) λ _=>?_)
     refine RD.one 15 (RDO.ev [] (ow 0 5) λ _=>?_)
     exact UX ⟨n9,R3⟩ [0,1,2] [0]
    ·refine RDO.ev [] [] λ n11=>RD.one 12 (RDO.ev [] [] λ Xf=>?_)
     refine RD.one 14 (RDO.ev [] (ow 0 5) λ _=>?_)
     refine RD.one 15 (RDO.ev [] (ow 1 5) λ _=>?_)
     exact UX ⟨Xf,n11⟩ [1,0,2] [0]
  ·refine ae 1 [] λ _=>RN.ret [] [0] [0] (v:=.tuple #[]) (H':=(ap [(tb,.lit (Stp.l t mb) 275 (0,0))] [T])) ?_
   refine⟨T,rfl,?_⟩
   have e:fc t M=M:=by
    unfold fc
    rw[if_neg (show ¬ (t.i=t.j) from h1),if_neg (show ¬ (movP t.S t.i) from h2)]
    first|done|rfl
   rw[e]
   exact hM.weak (by omega)
theorem CT(t:Stp)  (tb mb:Nat) (M:MemS) (k:Nat) (T F:HL) (hM:MemH mb M (k+8) T) (hS:SetIn F t.S) :Sp Tryz.prog 153 #[vP tb 0] (ap [(tb,.lit (Stp.l t mb) 275 (0,0))] [T]) F (λ u H'=>∃x,H'=ap [(tb,.lit (Stp.l t mb) 275 (0,0))] [x] /\ (MemH mb (dX t M) k x)):=by
 have hp:=hS.pl
 have hn:=hS.nb
 have hr:=hS.room
 refine Sp.run Tryz.func153 rfl (mc hS.blk mn) (A:=[(tb,.lit (Stp.l t mb) 275 (0,0))]) (Ts:=[T]) rfl λ w0=>?_
 refine ae 8 [.own 0] λ _=>RN.cp (qg t t.j tb mb _ (av 0))<|ae 2 [] λ _=>RN.em (0 <= t.j /\ t.j<t.S.nb) 7 (λ h1=>?_) λ h1=>?_
 ·refine ae 4 [] λ _=>RN.ct [0] [0] (CS t tb mb M (k+7) T _ hM hS.up (by assumption)) ?_
  rintro _ T2 R8
  refine ae 3 [] λ _=>RN.draw [11] []<|ag [] [0,4,1,5,2,6,3,7,8,9,10] [.own 0,.own 0]<|RD.one 11 (RDO.ct [] [] [0] (aj 3 (i64.wrap (t.j+1)) R8) ?_)
  rintro _ T4 SG
  refine RD.fin<|ae 1 [] λ _=>RN.ret [] [0] [0] (v:=.tuple #[]) (H':=(ap [(tb,.lit (Stp.l t mb) 275 (0,0))] [T4])) ?_
  refine⟨T4,rfl,?_⟩
  have e:(dX t M)=((fc t M).set 3 (i64.wrap (t.j+1))):=by
   first|(simp only[dX,fT,if_pos h1];try rfl;done)|rfl
  rw[e]
  exact SG.weak (by omega)
 ·refine ae 11 [.own 0] λ _=>RN.cp (jn t t.i tb mb _ (av 0) hS.up)<|ae 2 [] λ _=>RN.em (movP t.S t.i) 27 (λ h6=>?_) λ h6=>?_
  ·have:=movP.has h6
   refine ae 3 [] λ _=>RN.ct [0] [0] (yZ t tb mb M (k+4) T _ hM hS.up (by assumption)) ?_
   rintro _ T7 Sh
   refine ae 4 [] λ _=>RN.draw [] []<|ag [] [0,5,1,6,2,7,3,8,4,9,10,11] [.own 0,.own 0]<|RD.fin<|ae 1 [] λ _=>RN.em (i64.wrap (t.i+1)<(t.S.nb:Int)) 41 (λ h9=>?_) λ h9=>?_
   ·refine ae 2 [] λ _=>RN.draw [11] []<|ag [] [0,4,1,5,2,6,3,7,8,9,10] [.own 0,.own 0]<|RD.one 11 (RDO.ct [] [] [0] (aj 2 (i64.wrap (t.i+1)) Sh) ?_)
    rintro _ Tu Rj
    refine RD.fin<|ae 7 [.own 0] λ _=>RN.ct [] [0] (aj 3 0 Rj) ?_
    rintro _ Xc YO
    refine ae 8 [.own 0] λ _=>RN.ct [] [0] (aj 5 1024 YO) ?_
    rintro _ Y_ TT
    refine ae 2 [] λ _=>RN.ret [] [0] [0] (v:=.tuple #[]) (H':=(ap [(tb,.lit (Stp.l t mb) 275 (0,0))] [Y_])) ?_
    refine⟨Y_,rfl,?_⟩
    have e:(dX t M)=((((di t M).set 2 (i64.wrap (t.i+1))).set 3 0).set 5 1024):=by
     first|(simp only[dX,fT,if_neg h1,if_pos h6,if_pos h9];try rfl;done)|rfl
    rw[e]
    exact TT.weak (by omega)
   ·refine ae 6 [] λ _=>RN.ct [0] [0] (bJ t 6 0 tb mb (di t M) (k+1) T7 _ Sh hS.up ) ?_
    rintro _ Tt TQ
    refine ae 7 [.own 0] λ _=>RN.ct [] [0] (aj 5 0 TQ) ?_
    rintro _ ZA VP
    refine ae 1 [] λ _=>RN.ret [] [0] [0] (v:=.tuple #[]) (H':=(ap [(tb,.lit (Stp.l t mb) 275 (0,0))] [ZA])) ?_
    refine⟨ZA,rfl,?_⟩
    have e:(dX t M)=((aL t 6 0 (di t M)).set 5 0):=by
     first|(simp only[dX,fT,if_neg h1,if_pos h6,if_neg h9];try rfl;done)|rfl
    rw[e]
    exact VP.weak (by omega)
  ·refine ae 5 [] λ _=>RN.draw [] []<|ag [] [0,5,1,6,2,7,3,8,4,9,10,11] [.own 0,.own 0]<|RD.fin<|ae 1 [] λ _=>RN.em (i64.wrap (t.i+1)<(t.S.nb:Int)) 41 (λ h20=>?_) λ h20=>?_
   ·refine ae 2 [] λ _=>RN.draw [11] []<|ag [] [0,4,1,5,2,6,3,7,8,9,10] [.own 0,.own 0]<|RD.one 11 (RDO.ct [] [] [0] (aj 2 (i64.wrap (t.i+1)) hM) ?_)
    rintro _ Zz WV
    refine RD.fin<|ae 7 [.own 0] λ _=>RN.ct [] [0] (aj 3 0 WV) ?_
    rintro _ T23 YN
    refine ae 8 [.own 0] λ _=>RN.ct [] [0] (aj 5 1024 YN) ?_
    rintro _ XO WU
    refine ae 2 [] λ _=>RN.ret [] [0] [0] (v:=.tuple #[]) (H':=(ap [(tb,.lit (Stp.l t mb) 275 (0,0))] [XO])) ?_
    refine⟨XO,rfl,?_⟩
    have e:(dX t M)=(((M.set 2 (i64.wrap (t.i+1))).set 3 0).set 5 1024):=by
     first|(simp only[dX,fT,if_neg h1,if_neg h6,if_pos h20];try rfl;done)|rfl
    rw[e]
    exact WU.weak (by omega)
   ·refine ae 6 [] λ _=>RN.ct [0] [0] (bJ t 6 0 tb mb M (k+5) T _ hM hS.up ) ?_
    rintro _ Uo R9
    refine ae 7 [.own 0] λ _=>RN.ct [] [0] (aj 5 0 R9) ?_
    rintro _ XN R7
    refine ae 1 [] λ _=>RN.ret [] [0] [0] (v:=.tuple #[]) (H':=(ap [(tb,.lit (Stp.l t mb) 275 (0,0))] [XN])) ?_
    refine⟨XN,rfl,?_⟩
    have e:(dX t M)=((aL t 6 0 M).set 5 0):=by
     first|(simp only[dX,fT,if_neg h1,if_neg h6,if_neg h20];try rfl;done)|rfl
    rw[e]
    exact R7.weak (by omega)
theorem Fq(i j n r:Int)(q1 q2:Nat)(F:HL)(h1q:(q1,.lit [vI n] 3 (0,0))∈F)(h2q:(q2,.lit [vI r] 3 (0,0))∈F):Sp Tryz.prog 193 #[vI i,vI j,vP q1 0,vP q2 0] [] F (λ u H'=>u=.tuple #[vI ((dm i j n r).1),vI ((dm i j n r).2.1),vI ((dm i j n r).2.2)] /\ H'=[]):=by
 refine Sp.run Tryz.func193 rfl (mc h1q (mc h2q mn)) (A:=[]) (Ts:=[]) rfl λ w0=>?_
 refine ae 18 [.ro 0] λ _=>RN.em (i64.wrap (j+1)<n) 9 (λ h1=>?_) λ h1=>?_
 ·refine ae 12 [.ro 1] λ _=>RN.ret [] [] [] (v:=.tuple #[vI r,vI i,vI (i64.wrap (j+1))]) (H':=[]) ?_
  refine⟨?_,rfl⟩
  simp only[dm,if_pos h1]
 ·refine ae 10 [.ro 0] λ _=>RN.em (i64.wrap (i+2)<n) 18 (λ h2=>?_) λ h2=>?_
  ·refine ae 13 [.ro 1] λ _=>RN.ret [] [] [] (v:=.tuple #[vI r,vI (i64.wrap (i+1)),vI (i64.wrap (i+2))]) (H':=[]) ?_
   refine⟨?_,rfl⟩
   simp only[dm,if_neg h1,if_pos h2]
  ·refine ae 13 [.ro 1] λ _=>RN.ret [] [] [] (v:=.tuple #[vI (i64.wrap (r+1)),vI 0,vI 1]) (H':=[]) ?_
   refine⟨?_,rfl⟩
   simp only[dm,if_neg h1,if_neg h2]
theorem uL(t:Stp)  (tb mb:Nat) (M:MemS) (k:Nat) (T F:HL) (hM:MemH mb M (k+14) T) (hS:SetIn F t.S) :Sp Tryz.prog 152 #[vP tb 0] (ap [(tb,.lit (Stp.l t mb) 275 (0,0))] [T]) F (λ u H'=>∃x,H'=ap [(tb,.lit (Stp.l t mb) 275 (0,0))] [x] /\ (MemH mb (bQ t M) k x)):=by
 have hp:=hS.pl
 have hn:=hS.nb
 have hr:=hS.room
 refine Sp.run Tryz.func152 rfl (mc hS.blk mn) (A:=[(tb,.lit (Stp.l t mb) 275 (0,0))]) (Ts:=[T]) rfl λ w0=>?_
 refine ae 1 [] λ _=>RN.draw [13,14] []<|ag [] [0,6,1,7,2,8,3,9,4,5] [.own 0,.own 0]<|RD.cp [] 10 (λ X_=>(aw 4 hM (aR 0)))<|jQ (σ:=Nat × Nat) (λ ⟨n1,n2⟩=>⟨[(0,vP tb 0),(2,vP (n1+0) 0),(3,vP (n2+0) 0)],[((n2+0),.lit [vI (M.get 4)] 3 (0,0)),((n1+0),.lit [vI (t.S.nb:Int)] 3 (0,0)),(tb,.lit (Stp.l t mb) 275 (0,0))],[T],True,0⟩) ?_ ?_
 ·rintro⟨n1,n2⟩
  refine ae 3 [] λ _=>RN.draw [] []<|ag [] [0,1,2] [.own 1]<|RD.em ((t.S.nb:Int)<2) 20 (λ h3=>?_) λ h3=>?_
  ·refine ag [] [3,4,5,6,7,8,9,10] []<|RD.fin<|ae 5 [] λ _=>RN.ct [2] [0] (bJ t 5 0 tb mb M (k+11) T _ hM hS.up ) ?_
   rintro _ T4 SG
   refine ae 8 [.own 0] λ _=>RN.ct [] [0] (aj 5 1024 SG) ?_
   rintro _ T6 WQ
   refine ae 2 [] λ _=>RN.ret [] [0] [0] (v:=.tuple #[]) (H':=(ap [(tb,.lit (Stp.l t mb) 275 (0,0))] [T6])) ?_
   refine⟨T6,rfl,?_⟩
   have e:(bQ t M)=((aL t 5 0 M).set 5 1024):=by
    first|(simp only[bQ,if_pos h3];try rfl;done)|rfl
   rw[e]
   exact WQ.weak (by omega)
  ·refine ag [] [3,4,5,6,7,8,9,10] [.own 0,.own 2]<|RD.fin<|ae 1 [] λ _=>RN.em (M.get 4 >= t.S.rounds) 28 (λ h8=>?_) λ h8=>?_
   ·refine ae 4 [] λ _=>RN.ct [2] [0] (bJ t 5 0 tb mb M (k+11) T _ hM hS.up ) ?_
    rintro _ T9 RU
    refine ae 8 [.own 0] λ _=>RN.ct [] [0] (aj 5 1024 RU) ?_
    rintro _ No QO
    refine ae 2 [] λ _=>RN.ret [] [0] [0] (v:=.tuple #[]) (H':=(ap [(tb,.lit (Stp.l t mb) 275 (0,0))] [No])) ?_
    refine⟨No,rfl,?_⟩
    have e:(bQ t M)=((aL t 5 0 M).set 5 1024):=by
     first|(simp only[bQ,if_neg h3,if_pos h8];try rfl;done)|rfl
    rw[e]
    exact QO.weak (by omega)
   ·refine ae 6 [] λ _=>RN.ct [2] [0] (zg t tb mb M (k+4) T _ hM hS.up ) ?_
    rintro _ Td Sa
    refine ae 9 [] λ _=>RN.draw [14] [0,2]<|ag [0,2] [0,1,5,2,6,3,7,4,8] [.own 0,.own 0]<|RD.cp [0,2] 9 (λ X_=>(Fq t.i t.j (t.S.nb:Int) (M.get 4) (n1+0) (n2+0) _ (jD 2) (jD 1)))<|ag [0,2] [10,11,12,13] []<|RD.one 14 (RDO.ev [0,2] [.own 1] λ _=>?_)
    refine ag [0,2] [15,16] []<|RD.fin<|ae 2 [] λ _=>RN.draw [5] []<|ag [] [0,4,1,2,3] [.own 1,.own 0]<|RD.one 5 (RDO.ct [] [] [0] (aj 4 ((dm t.i t.j (t.S.nb:Int) (M.get 4)).1) Sa) ?_)
    rintro _ Sk R_
    refine RD.fin<|ae 8 [.own 0] λ _=>RN.ct [] [0] (aj 2 ((dm t.i t.j (t.S.nb:Int) (M.get 4)).2.1) R_) ?_
    rintro _ Sj SB
    refine ae 8 [.own 0] λ _=>RN.ct [] [0] (aj 3 ((dm t.i t.j (t.S.nb:Int) (M.get 4)).2.2) SB) ?_
    rintro _ TZ VN
    refine ae 1 [] λ _=>RN.ret [] [0] [0] (v:=.tuple #[]) (H':=(ap [(tb,.lit (Stp.l t mb) 275 (0,0))] [TZ])) ?_
    refine⟨TZ,rfl,?_⟩
    have e:(bQ t M)=((((dT t M).set 4 ((dm t.i t.j (t.S.nb:Int) (M.get 4)).1)).set 2 ((dm t.i t.j (t.S.nb:Int) (M.get 4)).2.1)).set 3 ((dm t.i t.j (t.S.nb:Int) (M.get 4)).2.2)):=by
     first|(simp only[bQ,if_neg h3,if_neg h8];try rfl;done)|rfl
    rw[e]
    exact VN.weak (by omega)
 ·intro Xg
  refine fQ 11 12 ?_ ?_
  ·refine RDO.ev [] [] λ n22=>RD.one 12 (RDO.ev [] [] λ n23=>?_)
   refine RD.one 13 (RDO.ev [] [.own 1] λ _=>?_)
   refine RD.one 14 (RDO.ev [] [.own 0] λ _=>?_)
   exact Xg ⟨n22,n23⟩ [0,1,2] [0]
  ·refine RDO.ev [] [] λ n24=>RD.one 11 (RDO.ev [] [] λ n25=>?_)
   refine RD.one 13 (RDO.ev [] [.own 0] λ _=>?_)
   refine RD.one 14 (RDO.ev [] [.own 1] λ _=>?_)
   exact Xg ⟨n25,n24⟩ [1,0,2] [0]
theorem Fs(t:Stp)  (tb mb:Nat) (M:MemS) (k:Nat) (T F:HL) (hM:MemH mb M (k+14) T) (hS:SetIn F t.S) :Sp Tryz.prog 155 #[vP tb 0] (ap [(tb,.lit (Stp.l t mb) 275 (0,0))] [T]) F (λ u H'=>∃x,H'=ap [(tb,.lit [.iface 96 (vP mb 0),vI t.S.players,vS t.S.bb (t.S.bo * 9) t.S.nb t.S.bc,vI t.S.box.x0,vI t.S.box.y0,vI t.S.box.x1,vI t.S.box.y1,.slice t.S.rA t.S.rn t.S.rc,.slice t.S.dA t.S.dn t.S.dc,vI t.S.fog,vI t.S.g.x,vI t.S.g.y,vI t.S.push,vI t.S.drag,vI t.S.rest,vI t.S.rounds,vI t.S.fuel,.slice t.cA t.cn t.cc,vI t.e0,vI t.e1,vI t.e2,vI t.version,vS t.ib (t.io * 3) t.ni t.ic,vI t.i,vI t.j,.bool (fJ t),vI t.f0,vI t.f1,vI t.f2,vI t.f3,.bool t.emitted] 275 (0,0))] [x] /\ (MemH mb (dG t M) k x)):=by
 have hp:=hS.pl
 have hn:=hS.nb
 have hr:=hS.room
 refine Sp.run Tryz.func155 rfl (mc hS.blk mn) (A:=[(tb,.lit (Stp.l t mb) 275 (0,0))]) (Ts:=[T]) rfl λ w0=>?_
 refine ae 2 [] λ _=>RN.draw [] []<|ag [] [0,4,1,5,2,6,3,7] (ow 0 17)<|RD.cp [] 8 (λ X_=>(cL t.S t.i _ hS.toSetN)) ?_
 have UA:=cK hS.toSetN t.i
 refine ag [] [9] []<|RD.fin<|ae 7 [] λ _=>RN.em (af t.S t.i >= 0) 15 (λ h2=>?_) λ h2=>?_
 ·refine ai 15 [.own 0,.nw] [aS ((af t.S t.i)+2)] λ _=>RN.cp (aw ((af t.S t.i)+2) hM (aq 0))<|ae 2 [] λ _=>RN.em (M.get ((af t.S t.i)+2)=0) 24 (λ h3=>?_) λ h3=>?_
  ·refine ai 6 [.own 0,.nw] [aS ((af t.S t.i)+3)] λ _=>RN.cp (aw ((af t.S t.i)+3) hM (aq 0))<|ae 4 [] λ _=>RN.em (M.get ((af t.S t.i)+3)=0) 33 (λ h4=>?_) λ h4=>?_
   ·refine ai 8 [.own 0,.nw] [aS ((af t.S t.i)+7)] λ _=>RN.cp (aw ((af t.S t.i)+7) hM (aq 0))<|ai 13 [.own 0,.nw] [aS ((af t.S t.i)+7)] λ _=>RN.ct [] [0] (aj ((af t.S t.i)+7) (if 1000<i64.wrap ((M.get ((af t.S t.i)+7))+1) then 1000 else i64.wrap ((M.get ((af t.S t.i)+7))+1)) hM) ?_
    rintro _ T5 Ry
    refine ae 4 [] λ _=>RN.draw [] []<|ag [] [0,5,1,6,2,7,3,8,4,9,10,11] [.own 0,.own 0]<|RD.fin<|ae 1 [] λ _=>RN.em (i64.wrap (t.i+1)<(t.S.nb:Int)) 62 (λ h7=>?_) λ h7=>?_
    ·refine ae 2 [] λ _=>RN.draw [11] []<|ag [] [0,4,1,5,2,6,3,7,8,9,10] [.own 0,.own 0]<|RD.one 11 (RDO.ct [] [] [0] (aj 2 (i64.wrap (t.i+1)) Ry) ?_)
     rintro _ T8 UB
     refine RD.fin<|ae 1 [] λ _=>RN.ret [] [0] [0] (v:=.tuple #[]) (H':=(ap [(tb,.lit (Stp.l t mb) 275 (0,0))] [T8])) ?_
     refine⟨T8,by simp only[fJ,Stp.l,if_pos h2,if_pos h3,if_pos h4,if_pos h7],?_⟩
     have e:(dG t M)=((M.set ((af t.S t.i)+7) (if 1000<i64.wrap ((M.get ((af t.S t.i)+7))+1) then 1000 else i64.wrap ((M.get ((af t.S t.i)+7))+1))).set 2 (i64.wrap (t.i+1))):=by
      simp only[dG,ge,gX,if_pos h2,if_pos h3,if_pos h4,if_pos h7]
     rw[e]
     exact UB.weak (by omega)
    ·refine ae 12 [.own 0] λ _=>RN.draw [12] []<|ag [] [0,4,1,5,2,6,3,7,10,11] [.own 0,.own 0]<|RD.cp [] 8 (λ X_=>(aw 0 Ry (aR 0)))<|ag [] [9] []<|RD.one 12 (RDO.ct [] [] [0] (aj 0 (i64.wrap (((M.set ((af t.S t.i)+7) (if 1000<i64.wrap ((M.get ((af t.S t.i)+7))+1) then 1000 else i64.wrap ((M.get ((af t.S t.i)+7))+1))).get 0)+1)) Ry) ?_)
     rintro _ Tu Rj
     refine RD.fin<|ae 7 [] λ _=>RN.loop (σ:=Nat × HL) (λ ⟨n,T_⟩=>⟨[(0,vP tb 0),(4,vI ((n+1:Nat):Int))],[(tb,.lit [.iface 96 (vP mb 0),vI t.S.players,vS t.S.bb (t.S.bo * 9) t.S.nb t.S.bc,vI t.S.box.x0,vI t.S.box.y0,vI t.S.box.x1,vI t.S.box.y1,.slice t.S.rA t.S.rn t.S.rc,.slice t.S.dA t.S.dn t.S.dc,vI t.S.fog,vI t.S.g.x,vI t.S.g.y,vI t.S.push,vI t.S.drag,vI t.S.rest,vI t.S.rounds,vI t.S.fuel,.slice t.cA t.cn t.cc,vI t.e0,vI t.e1,vI t.e2,vI t.version,vS t.ib (t.io * 3) t.ni t.ic,vI t.i,vI t.j,.bool true,vI t.f0,vI t.f1,vI t.f2,vI t.f3,.bool t.emitted] 275 (0,0))],[T_],n <= 10 /\ MemH mb (cH ((M.set ((af t.S t.i)+7) (if 1000<i64.wrap ((M.get ((af t.S t.i)+7))+1) then 1000 else i64.wrap ((M.get ((af t.S t.i)+7))+1))).set 0 (i64.wrap (((M.set ((af t.S t.i)+7) (if 1000<i64.wrap ((M.get ((af t.S t.i)+7))+1) then 1000 else i64.wrap ((M.get ((af t.S t.i)+7))+1))).get 0)+1))) n) (k+10-n) T_,10-n⟩) (0,Tu) [0] [0] (⟨by omega,Rj.weak (by omega)⟩) ?_
     rintro⟨n,T_⟩ ⟨Yk,S6⟩ UU
     refine ae 7 [] λ _=>RN.em (((n+1:Nat):Int) <= 10) 92 (λ SI=>?_) λ SI=>?_
     ·obtain⟨e_,RF⟩:∃e,k+10-n=e+1:=⟨k+9-n,by omega⟩
      have TP:MemH mb (cH ((M.set ((af t.S t.i)+7) (if 1000<i64.wrap ((M.get ((af t.S t.i)+7))+1) then 1000 else i64.wrap ((M.get ((af t.S t.i)+7))+1))).set 0 (i64.wrap (((M.set ((af t.S t.i)+7) (if 1000<i64.wrap ((M.get ((af t.S t.i)+7))+1) then 1000 else i64.wrap ((M.get ((af t.S t.i)+7))+1))).get 0)+1))) n) (e_+1) T_:=RF ▸ S6
      refine ae 11 [.own 0] λ _=>RN.ct [] [0] (aj ((n+1:Nat):Int) 0 TP) ?_
      rintro _ Sk R_
      refine ai 8 [.nw] [aS (((n+1:Nat):Int)+1)] λ _=>?_
      refine UU (n+1,Sk) [0] [0] ?_
      try dsimp only
      refine⟨⟨by omega,R_.cast (by rw[cH]) (by omega)⟩,by omega⟩
     ·refine ae 5 [] λ _=>RN.ret [] [0] [0] (v:=.tuple #[]) (H':=(ap [(tb,.lit [.iface 96 (vP mb 0),vI t.S.players,vS t.S.bb (t.S.bo * 9) t.S.nb t.S.bc,vI t.S.box.x0,vI t.S.box.y0,vI t.S.box.x1,vI t.S.box.y1,.slice t.S.rA t.S.rn t.S.rc,.slice t.S.dA t.S.dn t.S.dc,vI t.S.fog,vI t.S.g.x,vI t.S.g.y,vI t.S.push,vI t.S.drag,vI t.S.rest,vI t.S.rounds,vI t.S.fuel,.slice t.cA t.cn t.cc,vI t.e0,vI t.e1,vI t.e2,vI t.version,vS t.ib (t.io * 3) t.ni t.ic,vI t.i,vI t.j,.bool true,vI t.f0,vI t.f1,vI t.f2,vI t.f3,.bool t.emitted] 275 (0,0))] [T_])) ?_
      refine⟨T_,by simp only[fJ,Stp.l,if_pos h2,if_pos h3,if_pos h4,if_neg h7,if_neg SI],?_⟩
      have en:n=10:=by omega
      have e:(dG t M)=(cH ((M.set ((af t.S t.i)+7) (if 1000<i64.wrap ((M.get ((af t.S t.i)+7))+1) then 1000 else i64.wrap ((M.get ((af t.S t.i)+7))+1))).set 0 (i64.wrap (((M.set ((af t.S t.i)+7) (if 1000<i64.wrap ((M.get ((af t.S t.i)+7))+1) then 1000 else i64.wrap ((M.get ((af t.S t.i)+7))+1))).get 0)+1))) n):=by
       rw[en]
       simp only[dG,ge,gX,if_pos h2,if_pos h3,if_pos h4,if_neg h7,if_neg SI]
      rw[e]
      exact S6.weak (by omega)
   ·refine ai 11 [.own 0,.nw] [aS ((af t.S t.i)+7)] λ _=>RN.ct [] [0] (aj ((af t.S t.i)+7) 0 hM) ?_
    rintro _ Sj SB
    refine ae 4 [] λ _=>RN.draw [] []<|ag [] [0,5,1,6,2,7,3,8,4,9,10,11] [.own 0,.own 0]<|RD.fin<|ae 1 [] λ _=>RN.em (i64.wrap (t.i+1)<(t.S.nb:Int)) 62 (λ VX=>?_) λ VX=>?_
    ·refine ae 2 [] λ _=>RN.draw [11] []<|ag [] [0,4,1,5,2,6,3,7,8,9,10] [.own 0,.own 0]<|RD.one 11 (RDO.ct [] [] [0] (aj 2 (i64.wrap (t.i+1)) SB) ?_)
     rintro _ Up VM
     refine RD.fin<|ae 1 [] λ _=>RN.ret [] [0] [0] (v:=.tuple #[]) (H':=(ap [(tb,.lit (Stp.l t mb) 275 (0,0))] [Up])) ?_
     refine⟨Up,by simp only[fJ,Stp.l,if_pos h2,if_pos h3,if_neg h4,if_pos VX],?_⟩
     have e:(dG t M)=((M.set ((af t.S t.i)+7) 0).set 2 (i64.wrap (t.i+1))):=by
      simp only[dG,ge,gX,if_pos h2,if_pos h3,if_neg h4,if_pos VX]
     rw[e]
     exact VM.weak (by omega)
    ·refine ae 12 [.own 0] λ _=>RN.draw [12] []<|ag [] [0,4,1,5,2,6,3,7,10,11] [.own 0,.own 0]<|RD.cp [] 8 (λ X_=>(aw 0 SB (aR 0)))<|ag [] [9] []<|RD.one 12 (RDO.ct [] [] [0] (aj 0 (i64.wrap (((M.set ((af t.S t.i)+7) 0).get 0)+1)) SB) ?_)
     rintro _ XQ VL
     refine RD.fin<|ae 7 [] λ _=>RN.loop (σ:=Nat × HL) (λ ⟨n,T_⟩=>⟨[(0,vP tb 0),(4,vI ((n+1:Nat):Int))],[(tb,.lit [.iface 96 (vP mb 0),vI t.S.players,vS t.S.bb (t.S.bo * 9) t.S.nb t.S.bc,vI t.S.box.x0,vI t.S.box.y0,vI t.S.box.x1,vI t.S.box.y1,.slice t.S.rA t.S.rn t.S.rc,.slice t.S.dA t.S.dn t.S.dc,vI t.S.fog,vI t.S.g.x,vI t.S.g.y,vI t.S.push,vI t.S.drag,vI t.S.rest,vI t.S.rounds,vI t.S.fuel,.slice t.cA t.cn t.cc,vI t.e0,vI t.e1,vI t.e2,vI t.version,vS t.ib (t.io * 3) t.ni t.ic,vI t.i,vI t.j,.bool true,vI t.f0,vI t.f1,vI t.f2,vI t.f3,.bool t.emitted] 275 (0,0))],[T_],n <= 10 /\ MemH mb (cH ((M.set ((af t.S t.i)+7) 0).set 0 (i64.wrap (((M.set ((af t.S t.i)+7) 0).get 0)+1))) n) (k+10-n) T_,10-n⟩) (0,XQ) [0] [0] (⟨by omega,VL.weak (by omega)⟩) ?_
     rintro⟨n,T_⟩ ⟨Yk,S6⟩ mt25
     refine ae 7 [] λ _=>RN.em (((n+1:Nat):Int) <= 10) 92 (λ RA=>?_) λ RA=>?_
     ·obtain⟨e_,RF⟩:∃e,k+10-n=e+1:=⟨k+9-n,by omega⟩
      have TP:MemH mb (cH ((M.set ((af t.S t.i)+7) 0).set 0 (i64.wrap (((M.set ((af t.S t.i)+7) 0).get 0)+1))) n) (e_+1) T_:=RF ▸ S6
      refine ae 11 [.own 0] λ _=>RN.ct [] [0] (aj ((n+1:Nat):Int) 0 TP) ?_
      rintro _ Uo R9
      refine ai 8 [.nw] [aS (((n+1:Nat):Int)+1)] λ _=>?_
      refine mt25 (n+1,Uo) [0] [0] ?_
      try dsimp only
      refine⟨⟨by omega,R9.cast (by rw[cH]) (by omega)⟩,by omega⟩
     ·refine ae 5 [] λ _=>RN.ret [] [0] [0] (v:=.tuple #[]) (H':=(ap [(tb,.lit [.iface 96 (vP mb 0),vI t.S.players,vS t.S.bb (t.S.bo * 9) t.S.nb t.S.bc,vI t.S.box.x0,vI t.S.box.y0,vI t.S.box.x1,vI t.S.box.y1,.slice t.S.rA t.S.rn t.S.rc,.slice t.S.dA t.S.dn t.S.dc,vI t.S.fog,vI t.S.g.x,vI t.S.g.y,vI t.S.push,vI t.S.drag,vI t.S.rest,vI t.S.rounds,vI t.S.fuel,.slice t.cA t.cn t.cc,vI t.e0,vI t.e1,vI t.e2,vI t.version,vS t.ib (t.io * 3) t.ni t.ic,vI t.i,vI t.j,.bool true,vI t.f0,vI t.f1,vI t.f2,vI t.f3,.bool t.emitted] 275 (0,0))] [T_])) ?_
      refine⟨T_,by simp only[fJ,Stp.l,if_pos h2,if_pos h3,if_neg h4,if_neg VX,if_neg RA],?_⟩
      have en:n=10:=by omega
      have e:(dG t M)=(cH ((M.set ((af t.S t.i)+7) 0).set 0 (i64.wrap (((M.set ((af t.S t.i)+7) 0).get 0)+1))) n):=by
       rw[en]
       simp only[dG,ge,gX,if_pos h2,if_pos h3,if_neg h4,if_neg VX,if_neg RA]
      rw[e]
      exact S6.weak (by omega)
  ·refine ai 22 [.own 0,.nw] [aS ((af t.S t.i)+7)] λ _=>RN.ct [] [0] (aj ((af t.S t.i)+7) 0 hM) ?_
   rintro _ XN R7
   refine ae 4 [] λ _=>RN.draw [] []<|ag [] [0,5,1,6,2,7,3,8,4,9,10,11] [.own 0,.own 0]<|RD.fin<|ae 1 [] λ _=>RN.em (i64.wrap (t.i+1)<(t.S.nb:Int)) 62 (λ SH=>?_) λ SH=>?_
   ·refine ae 2 [] λ _=>RN.draw [11] []<|ag [] [0,4,1,5,2,6,3,7,8,9,10] [.own 0,.own 0]<|RD.one 11 (RDO.ct [] [] [0] (aj 2 (i64.wrap (t.i+1)) R7) ?_)
    rintro _ XM UC
    refine RD.fin<|ae 1 [] λ _=>RN.ret [] [0] [0] (v:=.tuple #[]) (H':=(ap [(tb,.lit (Stp.l t mb) 275 (0,0))] [XM])) ?_
    refine⟨XM,by simp only[fJ,Stp.l,if_pos h2,if_neg h3,if_pos SH],?_⟩
    have e:(dG t M)=((M.set ((af t.S t.i)+7) 0).set 2 (i64.wrap (t.i+1))):=by
     simp only[dG,ge,gX,if_pos h2,if_neg h3,if_pos SH]
    rw[e]
    exact UC.weak (by omega)
   ·refine ae 12 [.own 0] λ _=>RN.draw [12] []<|ag [] [0,4,1,5,2,6,3,7,10,11] [.own 0,.own 0]<|RD.cp [] 8 (λ X_=>(aw 0 R7 (aR 0)))<|ag [] [9] []<|RD.one 12 (RDO.ct [] [] [0] (aj 0 (i64.wrap (((M.set ((af t.S t.i)+7) 0).get 0)+1)) R7) ?_)
    rintro _ Xb WT
    refine RD.fin<|ae 7 [] λ _=>RN.loop (σ:=Nat × HL) (λ ⟨n,T_⟩=>⟨[(0,vP tb 0),(4,vI ((n+1:Nat):Int))],[(tb,.lit [.iface 96 (vP mb 0),vI t.S.players,vS t.S.bb (t.S.bo * 9) t.S.nb t.S.bc,vI t.S.box.x0,vI t.S.box.y0,vI t.S.box.x1,vI t.S.box.y1,.slice t.S.rA t.S.rn t.S.rc,.slice t.S.dA t.S.dn t.S.dc,vI t.S.fog,vI t.S.g.x,vI t.S.g.y,vI t.S.push,vI t.S.drag,vI t.S.rest,vI t.S.rounds,vI t.S.fuel,.slice t.cA t.cn t.cc,vI t.e0,vI t.e1,vI t.e2,vI t.version,vS t.ib (t.io * 3) t.ni t.ic,vI t.i,vI t.j,.bool true,vI t.f0,vI t.f1,vI t.f2,vI t.f3,.bool t.emitted] 275 (0,0))],[T_],n <= 10 /\ MemH mb (cH ((M.set ((af t.S t.i)+7) 0).set 0 (i64.wrap (((M.set ((af t.S t.i)+7) 0).get 0)+1))) n) (k+10-n) T_,10-n⟩) (0,Xb) [0] [0] (⟨by omega,WT.weak (by omega)⟩) ?_
    rintro⟨n,T_⟩ ⟨Yk,S6⟩ mt37
    refine ae 7 [] λ _=>RN.em (((n+1:Nat):Int) <= 10) 92 (λ h38=>?_) λ h38=>?_
    ·obtain⟨e_,RF⟩:∃e,k+10-n=e+1:=⟨k+9-n,by omega⟩
     have TP:MemH mb (cH ((M.set ((af t.S t.i)+7) 0).set 0 (i64.wrap (((M.set ((af t.S t.i)+7) 0).get 0)+1))) n) (e_+1) T_:=RF ▸ S6
     refine ae 11 [.own 0] λ _=>RN.ct [] [0] (aj ((n+1:Nat):Int) 0 TP) ?_
     rintro _ V0 SA
     refine ai 8 [.nw] [aS (((n+1:Nat):Int)+1)] λ _=>?_
     refine mt37 (n+1,V0) [0] [0] ?_
     try dsimp only
     refine⟨⟨by omega,SA.cast (by rw[cH]) (by omega)⟩,by omega⟩
    ·refine ae 5 [] λ _=>RN.ret [] [0] [0] (v:=.tuple #[]) (H':=(ap [(tb,.lit [.iface 96 (vP mb 0),vI t.S.players,vS t.S.bb (t.S.bo * 9) t.S.nb t.S.bc,vI t.S.box.x0,vI t.S.box.y0,vI t.S.box.x1,vI t.S.box.y1,.slice t.S.rA t.S.rn t.S.rc,.slice t.S.dA t.S.dn t.S.dc,vI t.S.fog,vI t.S.g.x,vI t.S.g.y,vI t.S.push,vI t.S.drag,vI t.S.rest,vI t.S.rounds,vI t.S.fuel,.slice t.cA t.cn t.cc,vI t.e0,vI t.e1,vI t.e2,vI t.version,vS t.ib (t.io * 3) t.ni t.ic,vI t.i,vI t.j,.bool true,vI t.f0,vI t.f1,vI t.f2,vI t.f3,.bool t.emitted] 275 (0,0))] [T_])) ?_
     refine⟨T_,by simp only[fJ,Stp.l,if_pos h2,if_neg h3,if_neg SH,if_neg h38],?_⟩
     have en:n=10:=by omega
     have e:(dG t M)=(cH ((M.set ((af t.S t.i)+7) 0).set 0 (i64.wrap (((M.set ((af t.S t.i)+7) 0).get 0)+1))) n):=by
      rw[en]
      simp only[dG,ge,gX,if_pos h2,if_neg h3,if_neg SH,if_neg h38]
     rw[e]
     exact S6.weak (by omega)
 ·refine ae 5 [] λ _=>RN.draw [] []<|ag [] [0,5,1,6,2,7,3,8,4,9,10,11] [.own 0,.own 0]<|RD.fin<|ae 1 [] λ _=>RN.em (i64.wrap (t.i+1)<(t.S.nb:Int)) 62 (λ Rz=>?_) λ Rz=>?_
  ·refine ae 2 [] λ _=>RN.draw [11] []<|ag [] [0,4,1,5,2,6,3,7,8,9,10] [.own 0,.own 0]<|RD.one 11 (RDO.ct [] [] [0] (aj 2 (i64.wrap (t.i+1)) hM) ?_)
   rintro _ Xa VH
   refine RD.fin<|ae 1 [] λ _=>RN.ret [] [0] [0] (v:=.tuple #[]) (H':=(ap [(tb,.lit (Stp.l t mb) 275 (0,0))] [Xa])) ?_
   refine⟨Xa,by simp only[fJ,Stp.l,if_neg h2,if_pos Rz],?_⟩
   have e:(dG t M)=(M.set 2 (i64.wrap (t.i+1))):=by
    simp only[dG,ge,gX,if_neg h2,if_pos Rz]
   rw[e]
   exact VH.weak (by omega)
  ·refine ae 12 [.own 0] λ _=>RN.draw [12] []<|ag [] [0,4,1,5,2,6,3,7,10,11] [.own 0,.own 0]<|RD.cp [] 8 (λ X_=>(aw 0 hM (aR 0)))<|ag [] [9] []<|RD.one 12 (RDO.ct [] [] [0] (aj 0 (i64.wrap ((M.get 0)+1)) hM) ?_)
   rintro _ T44 VG
   refine RD.fin<|ae 7 [] λ _=>RN.loop (σ:=Nat × HL) (λ ⟨n,T_⟩=>⟨[(0,vP tb 0),(4,vI ((n+1:Nat):Int))],[(tb,.lit [.iface 96 (vP mb 0),vI t.S.players,vS t.S.bb (t.S.bo * 9) t.S.nb t.S.bc,vI t.S.box.x0,vI t.S.box.y0,vI t.S.box.x1,vI t.S.box.y1,.slice t.S.rA t.S.rn t.S.rc,.slice t.S.dA t.S.dn t.S.dc,vI t.S.fog,vI t.S.g.x,vI t.S.g.y,vI t.S.push,vI t.S.drag,vI t.S.rest,vI t.S.rounds,vI t.S.fuel,.slice t.cA t.cn t.cc,vI t.e0,vI t.e1,vI t.e2,vI t.version,vS t.ib (t.io * 3) t.ni t.ic,vI t.i,vI t.j,.bool true,vI t.f0,vI t.f1,vI t.f2,vI t.f3,.bool t.emitted] 275 (0,0))],[T_],n <= 10 /\ MemH mb (cH (M.set 0 (i64.wrap ((M.get 0)+1))) n) (k+10-n) T_,10-n⟩) (0,T44) [0] [0] (⟨by omega,VG.weak (by omega)⟩) ?_
   rintro⟨n,T_⟩ ⟨Yk,S6⟩ XX
   refine ae 7 [] λ _=>RN.em (((n+1:Nat):Int) <= 10) 92 (λ Tn=>?_) λ Tn=>?_
   ·obtain⟨e_,RF⟩:∃e,k+10-n=e+1:=⟨k+9-n,by omega⟩
    have TP:MemH mb (cH (M.set 0 (i64.wrap ((M.get 0)+1))) n) (e_+1) T_:=RF ▸ S6
    refine ae 11 [.own 0] λ _=>RN.ct [] [0] (aj ((n+1:Nat):Int) 0 TP) ?_
    rintro _ W_ Sz
    refine ai 8 [.nw] [aS (((n+1:Nat):Int)+1)] λ _=>?_
    refine XX (n+1,W_) [0] [0] ?_
    try dsimp only
    refine⟨⟨by omega,Sz.cast (by rw[cH]) (by omega)⟩,by omega⟩
   ·refine ae 5 [] λ _=>RN.ret [] [0] [0] (v:=.tuple #[]) (H':=(ap [(tb,.lit [.iface 96 (vP mb 0),vI t.S.players,vS t.S.bb (t.S.bo * 9) t.S.nb t.S.bc,vI t.S.box.x0,vI t.S.box.y0,vI t.S.box.x1,vI t.S.box.y1,.slice t.S.rA t.S.rn t.S.rc,.slice t.S.dA t.S.dn t.S.dc,vI t.S.fog,vI t.S.g.x,vI t.S.g.y,vI t.S.push,vI t.S.drag,vI t.S.rest,vI t.S.rounds,vI t.S.fuel,.slice t.cA t.cn t.cc,vI t.e0,vI t.e1,vI t.e2,vI t.version,vS t.ib (t.io * 3) t.ni t.ic,vI t.i,vI t.j,.bool true,vI t.f0,vI t.f1,vI t.f2,vI t.f3,.bool t.emitted] 275 (0,0))] [T_])) ?_
    refine⟨T_,by simp only[fJ,Stp.l,if_neg h2,if_neg Rz,if_neg Tn],?_⟩
    have en:n=10:=by omega
    have e:(dG t M)=(cH (M.set 0 (i64.wrap ((M.get 0)+1))) n):=by
     rw[en]
     simp only[dG,ge,gX,if_neg h2,if_neg Rz,if_neg Tn]
    rw[e]
    exact S6.weak (by omega)
structure Gm where
 S:Setup
 cA:Option Addr
 cn:Nat
 cc:Nat
 e0:Int
 e1:Int
 e2:Int
 version:Int
 ib:Nat
 io:Nat
 ni:Nat
 ic:Nat
 iR:Nat
 ins:List Inp
 code:List Ins
abbrev Gm.step(g:Gm)(M:MemS):Stp:=⟨g.S,g.cA,g.cn,g.cc,g.e0,g.e1,g.e2,g.version,g.ib,g.io,g.ni,g.ic,g.iR,g.ins,M.get 2,M.get 3,false,0,0,0,0,false,g.code⟩
theorem Mj(g:Gm)(mb:Nat)(M:MemS)(k:Nat)(T F:HL)(hM:MemH mb M (k+20) T)(hS:SetIn F g.S)(hp:M.get 1=0)(hI:(g.ib,.rows 3 g.iR (fS g.ins) 119 (0,0))∈F)(hir:g.io+g.ni <= g.iR /\ g.ni <= 1000000):Sp Tryz.prog 125 #[.iface 96 (vP mb 0),.agg #[vI g.S.players,vS g.S.bb (g.S.bo * 9) g.S.nb g.S.bc,vI g.S.box.x0,vI g.S.box.y0,vI g.S.box.x1,vI g.S.box.y1,.slice g.S.rA g.S.rn g.S.rc,.slice g.S.dA g.S.dn g.S.dc,vI g.S.fog,vI g.S.g.x,vI g.S.g.y,vI g.S.push,vI g.S.drag,vI g.S.rest,vI g.S.rounds,vI g.S.fuel],.agg #[.slice g.cA g.cn g.cc,vI g.e0,vI g.e1,vI g.e2],vI g.version,vS g.ib (g.io * 3) g.ni g.ic] (ap [] [T]) F (λ u H'=>∃x,H'=ap [] [x] /\ (MemH mb (aP (g.step M) M) k x /\ u=.tuple #[.bool false,.agg #[vI 0,vI 0,vI 0,vI 0],.bool false])):=by
 refine Sp.run Tryz.func125 rfl mn (A:=[]) (Ts:=[T]) rfl λ w0=>?_
 refine ae 29 (ow 0 8) λ n1=>RN.cp (jm 1 hp hM (aq 0))<|ae 18 [] λ _=>RN.draw [] []<|ag [] [0,1,2,3,4,5,7] (ow 3 16++[.own 2,.own 2,.own 2,.own 2])<|RD.cp [] 6 (λ X_=>(aw 2 hM (aR 0)))<|RD.cp [] 8 (λ X_=>(aw 3 hM (aR 0)))<|ag [] [9] []<|RD.one 10 (RDO.ev [] [] λ n2=>?_)
 refine ag [] [11] []<|RD.fin<|ae 7 [.own 1] λ _=>RN.ct [0] [0] (CG (g.step M) (n2+0) mb M (k+12) T _ hM hS.up (List.mem_append_right _ hI) hir) ?_
 rintro _ T3 K_
 refine ae 3 [] λ _=>RN.draw [13] [0,1,3,4]<|ag [0,1,3,4] [0,4,8,1,5,9,2,6,10,3,7,11,12] (ow 0 5++[.ro 0])<|RD.one 13 (RDO.ev [0,1,3,4] [.own 2,.own 2,.own 2,.own 2] λ _=>?_)
 refine ag [0,1,3,4] [14] []<|RD.fin<|ae 1 [] λ _=>RN.ret [.own 2,.own 2,.own 2,.own 2] [] [0] (v:=.tuple #[.bool false,.agg #[vI 0,vI 0,vI 0,vI 0],.bool false]) (H':=(ap [] [T3])) ?_
 exact⟨T3,rfl,K_.weak (by omega),rfl⟩
theorem Ml(g:Gm)(mb:Nat)(M:MemS)(k:Nat)(T F:HL)(hM:MemH mb M (k+20) T)(hS:SetIn F g.S)(hp:M.get 1=1)(hE:cX F)(hC:CodeIn F g.code g.cA g.cn):Sp Tryz.prog 125 #[.iface 96 (vP mb 0),.agg #[vI g.S.players,vS g.S.bb (g.S.bo * 9) g.S.nb g.S.bc,vI g.S.box.x0,vI g.S.box.y0,vI g.S.box.x1,vI g.S.box.y1,.slice g.S.rA g.S.rn g.S.rc,.slice g.S.dA g.S.dn g.S.dc,vI g.S.fog,vI g.S.g.x,vI g.S.g.y,vI g.S.push,vI g.S.drag,vI g.S.rest,vI g.S.rounds,vI g.S.fuel],.agg #[.slice g.cA g.cn g.cc,vI g.e0,vI g.e1,vI g.e2],vI g.version,vS g.ib (g.io * 3) g.ni g.ic] (ap [] [T]) F (λ u H'=>∃x,H'=ap [] [x] /\ (MemH mb (fj (g.step M) M).M k x /\ u=.tuple #[.bool false,.agg #[vI ((fj (g.step M) M).e.t),vI ((fj (g.step M) M).e.i),vI ((fj (g.step M) M).e.k),vI ((fj (g.step M) M).e.v)],.bool ((fj (g.step M) M).em)])):=by
 refine Sp.run Tryz.func125 rfl mn (A:=[]) (Ts:=[T]) rfl λ w0=>?_
 refine ae 29 (ow 0 8) λ n1=>RN.cp (jm 1 hp hM (aq 0))<|ae 18 [] λ _=>RN.draw [] []<|ag [] [0,1,2,3,4,5,7] (ow 3 16++[.own 2,.own 2,.own 2,.own 2])<|RD.cp [] 6 (λ X_=>(aw 2 hM (aR 0)))<|RD.cp [] 8 (λ X_=>(aw 3 hM (aR 0)))<|ag [] [9] []<|RD.one 10 (RDO.ev [] [] λ n2=>?_)
 refine ag [] [11] []<|RD.fin<|ae 7 [.own 1] λ _=>RN.ct [0] [0] (Ol (g.step M) (n2+0) mb M (k+11) T _ hM hS.up (ar hE) hC.up) ?_
 rintro _ T3 K_
 refine ae 3 [] λ _=>RN.draw [13] [0,1,3,4]<|ag [0,1,3,4] [0,4,8,1,5,9,2,6,10,3,7,11,12] (ow 0 5++[.ro 0])<|RD.one 13 (RDO.ev [0,1,3,4] [.own 2,.own 2,.own 2,.own 2] λ _=>?_)
 refine ag [0,1,3,4] [14] []<|RD.fin<|ae 1 [] λ _=>RN.ret [.own 2,.own 2,.own 2,.own 2] [] [0] (v:=.tuple #[.bool false,.agg #[vI ((fj (g.step M) M).e.t),vI ((fj (g.step M) M).e.i),vI ((fj (g.step M) M).e.k),vI ((fj (g.step M) M).e.v)],.bool ((fj (g.step M) M).em)]) (H':=(ap [] [T3])) ?_
 exact⟨T3,rfl,K_.weak (by omega),rfl⟩
theorem trans2(g:Gm)(mb:Nat)(M:MemS)(k:Nat)(T F:HL)(hM:MemH mb M (k+20) T)(hS:SetIn F g.S)(hp:M.get 1=2)(hE:cX F)(hC:CodeIn F g.code g.cA g.cn):Sp Tryz.prog 125 #[.iface 96 (vP mb 0),.agg #[vI g.S.players,vS g.S.bb (g.S.bo * 9) g.S.nb g.S.bc,vI g.S.box.x0,vI g.S.box.y0,vI g.S.box.x1,vI g.S.box.y1,.slice g.S.rA g.S.rn g.S.rc,.slice g.S.dA g.S.dn g.S.dc,vI g.S.fog,vI g.S.g.x,vI g.S.g.y,vI g.S.push,vI g.S.drag,vI g.S.rest,vI g.S.rounds,vI g.S.fuel],.agg #[.slice g.cA g.cn g.cc,vI g.e0,vI g.e1,vI g.e2],vI g.version,vS g.ib (g.io * 3) g.ni g.ic] (ap [] [T]) F (λ u H'=>∃x,H'=ap [] [x] /\ (MemH mb (cY (g.step M) M).M k x /\ u=.tuple #[.bool false,.agg #[vI ((cY (g.step M) M).e.t),vI ((cY (g.step M) M).e.i),vI ((cY (g.step M) M).e.k),vI ((cY (g.step M) M).e.v)],.bool ((cY (g.step M) M).em)])):=by
 refine Sp.run Tryz.func125 rfl mn (A:=[]) (Ts:=[T]) rfl λ w0=>?_
 refine ae 29 (ow 0 8) λ n1=>RN.cp (jm 1 hp hM (aq 0))<|ae 18 [] λ _=>RN.draw [] []<|ag [] [0,1,2,3,4,5,7] (ow 3 16++[.own 2,.own 2,.own 2,.own 2])<|RD.cp [] 6 (λ X_=>(aw 2 hM (aR 0)))<|RD.cp [] 8 (λ X_=>(aw 3 hM (aR 0)))<|ag [] [9] []<|RD.one 10 (RDO.ev [] [] λ n2=>?_)
 refine ag [] [11] []<|RD.fin<|ae 7 [.own 1] λ _=>RN.ct [0] [0] (Mi (g.step M) (n2+0) mb M (k+11) T _ hM hS.up (ar hE) hC.up) ?_
 rintro _ T3 K_
 refine ae 3 [] λ _=>RN.draw [13] [0,1,3,4]<|ag [0,1,3,4] [0,4,8,1,5,9,2,6,10,3,7,11,12] (ow 0 5++[.ro 0])<|RD.one 13 (RDO.ev [0,1,3,4] [.own 2,.own 2,.own 2,.own 2] λ _=>?_)
 refine ag [0,1,3,4] [14] []<|RD.fin<|ae 1 [] λ _=>RN.ret [.own 2,.own 2,.own 2,.own 2] [] [0] (v:=.tuple #[.bool false,.agg #[vI ((cY (g.step M) M).e.t),vI ((cY (g.step M) M).e.i),vI ((cY (g.step M) M).e.k),vI ((cY (g.step M) M).e.v)],.bool ((cY (g.step M) M).em)]) (H':=(ap [] [T3])) ?_
 exact⟨T3,rfl,K_.weak (by omega),rfl⟩
theorem Mm(g:Gm)(mb:Nat)(M:MemS)(k:Nat)(T F:HL)(hM:MemH mb M (k+20) T)(hS:SetIn F g.S)(hp:M.get 1=3) :Sp Tryz.prog 125 #[.iface 96 (vP mb 0),.agg #[vI g.S.players,vS g.S.bb (g.S.bo * 9) g.S.nb g.S.bc,vI g.S.box.x0,vI g.S.box.y0,vI g.S.box.x1,vI g.S.box.y1,.slice g.S.rA g.S.rn g.S.rc,.slice g.S.dA g.S.dn g.S.dc,vI g.S.fog,vI g.S.g.x,vI g.S.g.y,vI g.S.push,vI g.S.drag,vI g.S.rest,vI g.S.rounds,vI g.S.fuel],.agg #[.slice g.cA g.cn g.cc,vI g.e0,vI g.e1,vI g.e2],vI g.version,vS g.ib (g.io * 3) g.ni g.ic] (ap [] [T]) F (λ u H'=>∃x,H'=ap [] [x] /\ (MemH mb (aQ (g.step M) M) k x /\ u=.tuple #[.bool false,.agg #[vI 0,vI 0,vI 0,vI 0],.bool false])):=by
 refine Sp.run Tryz.func125 rfl mn (A:=[]) (Ts:=[T]) rfl λ w0=>?_
 refine ae 29 (ow 0 8) λ n1=>RN.cp (jm 1 hp hM (aq 0))<|ae 18 [] λ _=>RN.draw [] []<|ag [] [0,1,2,3,4,5,7] (ow 3 16++[.own 2,.own 2,.own 2,.own 2])<|RD.cp [] 6 (λ X_=>(aw 2 hM (aR 0)))<|RD.cp [] 8 (λ X_=>(aw 3 hM (aR 0)))<|ag [] [9] []<|RD.one 10 (RDO.ev [] [] λ n2=>?_)
 refine ag [] [11] []<|RD.fin<|ae 7 [.own 1] λ _=>RN.ct [0] [0] (CH (g.step M) (n2+0) mb M (k+12) T _ hM hS.up ) ?_
 rintro _ T3 K_
 refine ae 3 [] λ _=>RN.draw [13] [0,1,3,4]<|ag [0,1,3,4] [0,4,8,1,5,9,2,6,10,3,7,11,12] (ow 0 5++[.ro 0])<|RD.one 13 (RDO.ev [0,1,3,4] [.own 2,.own 2,.own 2,.own 2] λ _=>?_)
 refine ag [0,1,3,4] [14] []<|RD.fin<|ae 1 [] λ _=>RN.ret [.own 2,.own 2,.own 2,.own 2] [] [0] (v:=.tuple #[.bool false,.agg #[vI 0,vI 0,vI 0,vI 0],.bool false]) (H':=(ap [] [T3])) ?_
 exact⟨T3,rfl,K_.weak (by omega),rfl⟩
theorem Mn(g:Gm)(mb:Nat)(M:MemS)(k:Nat)(T F:HL)(hM:MemH mb M (k+20) T)(hS:SetIn F g.S)(hp:M.get 1=4) :Sp Tryz.prog 125 #[.iface 96 (vP mb 0),.agg #[vI g.S.players,vS g.S.bb (g.S.bo * 9) g.S.nb g.S.bc,vI g.S.box.x0,vI g.S.box.y0,vI g.S.box.x1,vI g.S.box.y1,.slice g.S.rA g.S.rn g.S.rc,.slice g.S.dA g.S.dn g.S.dc,vI g.S.fog,vI g.S.g.x,vI g.S.g.y,vI g.S.push,vI g.S.drag,vI g.S.rest,vI g.S.rounds,vI g.S.fuel],.agg #[.slice g.cA g.cn g.cc,vI g.e0,vI g.e1,vI g.e2],vI g.version,vS g.ib (g.io * 3) g.ni g.ic] (ap [] [T]) F (λ u H'=>∃x,H'=ap [] [x] /\ (MemH mb (bQ (g.step M) M) k x /\ u=.tuple #[.bool false,.agg #[vI 0,vI 0,vI 0,vI 0],.bool false])):=by
 refine Sp.run Tryz.func125 rfl mn (A:=[]) (Ts:=[T]) rfl λ w0=>?_
 refine ae 29 (ow 0 8) λ n1=>RN.cp (jm 1 hp hM (aq 0))<|ae 18 [] λ _=>RN.draw [] []<|ag [] [0,1,2,3,4,5,7] (ow 3 16++[.own 2,.own 2,.own 2,.own 2])<|RD.cp [] 6 (λ X_=>(aw 2 hM (aR 0)))<|RD.cp [] 8 (λ X_=>(aw 3 hM (aR 0)))<|ag [] [9] []<|RD.one 10 (RDO.ev [] [] λ n2=>?_)
 refine ag [] [11] []<|RD.fin<|ae 7 [.own 1] λ _=>RN.ct [0] [0] (uL (g.step M) (n2+0) mb M (k+6) T _ hM hS.up ) ?_
 rintro _ T3 K_
 refine ae 3 [] λ _=>RN.draw [13] [0,1,3,4]<|ag [0,1,3,4] [0,4,8,1,5,9,2,6,10,3,7,11,12] (ow 0 5++[.ro 0])<|RD.one 13 (RDO.ev [0,1,3,4] [.own 2,.own 2,.own 2,.own 2] λ _=>?_)
 refine ag [0,1,3,4] [14] []<|RD.fin<|ae 1 [] λ _=>RN.ret [.own 2,.own 2,.own 2,.own 2] [] [0] (v:=.tuple #[.bool false,.agg #[vI 0,vI 0,vI 0,vI 0],.bool false]) (H':=(ap [] [T3])) ?_
 exact⟨T3,rfl,K_.weak (by omega),rfl⟩
theorem Mo(g:Gm)(mb:Nat)(M:MemS)(k:Nat)(T F:HL)(hM:MemH mb M (k+20) T)(hS:SetIn F g.S)(hp:M.get 1=5) :Sp Tryz.prog 125 #[.iface 96 (vP mb 0),.agg #[vI g.S.players,vS g.S.bb (g.S.bo * 9) g.S.nb g.S.bc,vI g.S.box.x0,vI g.S.box.y0,vI g.S.box.x1,vI g.S.box.y1,.slice g.S.rA g.S.rn g.S.rc,.slice g.S.dA g.S.dn g.S.dc,vI g.S.fog,vI g.S.g.x,vI g.S.g.y,vI g.S.push,vI g.S.drag,vI g.S.rest,vI g.S.rounds,vI g.S.fuel],.agg #[.slice g.cA g.cn g.cc,vI g.e0,vI g.e1,vI g.e2],vI g.version,vS g.ib (g.io * 3) g.ni g.ic] (ap [] [T]) F (λ u H'=>∃x,H'=ap [] [x] /\ (MemH mb (dX (g.step M) M) k x /\ u=.tuple #[.bool false,.agg #[vI 0,vI 0,vI 0,vI 0],.bool false])):=by
 refine Sp.run Tryz.func125 rfl mn (A:=[]) (Ts:=[T]) rfl λ w0=>?_
 refine ae 29 (ow 0 8) λ n1=>RN.cp (jm 1 hp hM (aq 0))<|ae 18 [] λ _=>RN.draw [] []<|ag [] [0,1,2,3,4,5,7] (ow 3 16++[.own 2,.own 2,.own 2,.own 2])<|RD.cp [] 6 (λ X_=>(aw 2 hM (aR 0)))<|RD.cp [] 8 (λ X_=>(aw 3 hM (aR 0)))<|ag [] [9] []<|RD.one 10 (RDO.ev [] [] λ n2=>?_)
 refine ag [] [11] []<|RD.fin<|ae 7 [.own 1] λ _=>RN.ct [0] [0] (CT (g.step M) (n2+0) mb M (k+12) T _ hM hS.up ) ?_
 rintro _ T3 K_
 refine ae 3 [] λ _=>RN.draw [13] [0,1,3,4]<|ag [0,1,3,4] [0,4,8,1,5,9,2,6,10,3,7,11,12] (ow 0 5++[.ro 0])<|RD.one 13 (RDO.ev [0,1,3,4] [.own 2,.own 2,.own 2,.own 2] λ _=>?_)
 refine ag [0,1,3,4] [14] []<|RD.fin<|ae 1 [] λ _=>RN.ret [.own 2,.own 2,.own 2,.own 2] [] [0] (v:=.tuple #[.bool false,.agg #[vI 0,vI 0,vI 0,vI 0],.bool false]) (H':=(ap [] [T3])) ?_
 exact⟨T3,rfl,K_.weak (by omega),rfl⟩
theorem Mp(g:Gm)(mb:Nat)(M:MemS)(k:Nat)(T F:HL)(hM:MemH mb M (k+20) T)(hS:SetIn F g.S)(hp:M.get 1=6)(hE:cX F)(hC:CodeIn F g.code g.cA g.cn):Sp Tryz.prog 125 #[.iface 96 (vP mb 0),.agg #[vI g.S.players,vS g.S.bb (g.S.bo * 9) g.S.nb g.S.bc,vI g.S.box.x0,vI g.S.box.y0,vI g.S.box.x1,vI g.S.box.y1,.slice g.S.rA g.S.rn g.S.rc,.slice g.S.dA g.S.dn g.S.dc,vI g.S.fog,vI g.S.g.x,vI g.S.g.y,vI g.S.push,vI g.S.drag,vI g.S.rest,vI g.S.rounds,vI g.S.fuel],.agg #[.slice g.cA g.cn g.cc,vI g.e0,vI g.e1,vI g.e2],vI g.version,vS g.ib (g.io * 3) g.ni g.ic] (ap [] [T]) F (λ u H'=>∃x,H'=ap [] [x] /\ (MemH mb (fl (g.step M) M).M k x /\ u=.tuple #[.bool false,.agg #[vI ((fl (g.step M) M).e.t),vI ((fl (g.step M) M).e.i),vI ((fl (g.step M) M).e.k),vI ((fl (g.step M) M).e.v)],.bool ((fl (g.step M) M).em)])):=by
 refine Sp.run Tryz.func125 rfl mn (A:=[]) (Ts:=[T]) rfl λ w0=>?_
 refine ae 29 (ow 0 8) λ n1=>RN.cp (jm 1 hp hM (aq 0))<|ae 18 [] λ _=>RN.draw [] []<|ag [] [0,1,2,3,4,5,7] (ow 3 16++[.own 2,.own 2,.own 2,.own 2])<|RD.cp [] 6 (λ X_=>(aw 2 hM (aR 0)))<|RD.cp [] 8 (λ X_=>(aw 3 hM (aR 0)))<|ag [] [9] []<|RD.one 10 (RDO.ev [] [] λ n2=>?_)
 refine ag [] [11] []<|RD.fin<|ae 7 [.own 1] λ _=>RN.ct [0] [0] (Om (g.step M) (n2+0) mb M (k+11) T _ hM hS.up (ar hE) hC.up) ?_
 rintro _ T3 K_
 refine ae 3 [] λ _=>RN.draw [13] [0,1,3,4]<|ag [0,1,3,4] [0,4,8,1,5,9,2,6,10,3,7,11,12] (ow 0 5++[.ro 0])<|RD.one 13 (RDO.ev [0,1,3,4] [.own 2,.own 2,.own 2,.own 2] λ _=>?_)
 refine ag [0,1,3,4] [14] []<|RD.fin<|ae 1 [] λ _=>RN.ret [.own 2,.own 2,.own 2,.own 2] [] [0] (v:=.tuple #[.bool false,.agg #[vI ((fl (g.step M) M).e.t),vI ((fl (g.step M) M).e.i),vI ((fl (g.step M) M).e.k),vI ((fl (g.step M) M).e.v)],.bool ((fl (g.step M) M).em)]) (H':=(ap [] [T3])) ?_
 exact⟨T3,rfl,K_.weak (by omega),rfl⟩
theorem Mq(g:Gm)(mb:Nat)(M:MemS)(k:Nat)(T F:HL)(hM:MemH mb M (k+20) T)(hS:SetIn F g.S)(hp:M.get 1=7) :Sp Tryz.prog 125 #[.iface 96 (vP mb 0),.agg #[vI g.S.players,vS g.S.bb (g.S.bo * 9) g.S.nb g.S.bc,vI g.S.box.x0,vI g.S.box.y0,vI g.S.box.x1,vI g.S.box.y1,.slice g.S.rA g.S.rn g.S.rc,.slice g.S.dA g.S.dn g.S.dc,vI g.S.fog,vI g.S.g.x,vI g.S.g.y,vI g.S.push,vI g.S.drag,vI g.S.rest,vI g.S.rounds,vI g.S.fuel],.agg #[.slice g.cA g.cn g.cc,vI g.e0,vI g.e1,vI g.e2],vI g.version,vS g.ib (g.io * 3) g.ni g.ic] (ap [] [T]) F (λ u H'=>∃x,H'=ap [] [x] /\ (MemH mb (dG (g.step M) M) k x /\ u=.tuple #[.bool (fJ (g.step M)),.agg #[vI 0,vI 0,vI 0,vI 0],.bool false])):=by
 refine Sp.run Tryz.func125 rfl mn (A:=[]) (Ts:=[T]) rfl λ w0=>?_
 refine ae 29 (ow 0 8) λ n1=>RN.cp (jm 1 hp hM (aq 0))<|ae 18 [] λ _=>RN.draw [] []<|ag [] [0,1,2,3,4,5,7] (ow 3 16++[.own 2,.own 2,.own 2,.own 2])<|RD.cp [] 6 (λ X_=>(aw 2 hM (aR 0)))<|RD.cp [] 8 (λ X_=>(aw 3 hM (aR 0)))<|ag [] [9] []<|RD.one 10 (RDO.ev [] [] λ n2=>?_)
 refine ag [] [11] []<|RD.fin<|ae 7 [.own 1] λ _=>RN.ct [0] [0] (Fs (g.step M) (n2+0) mb M (k+6) T _ hM hS.up ) ?_
 rintro _ T3 K_
 refine ae 3 [] λ _=>RN.draw [13] [0,1,3,4]<|ag [0,1,3,4] [0,4,8,1,5,9,2,6,10,3,7,11,12] (ow 0 5++[.ro 0])<|RD.one 13 (RDO.ev [0,1,3,4] [.own 2,.own 2,.own 2,.own 2] λ _=>?_)
 refine ag [0,1,3,4] [14] []<|RD.fin<|ae 1 [] λ _=>RN.ret [.own 2,.own 2,.own 2,.own 2] [] [0] (v:=.tuple #[.bool (fJ (g.step M)),.agg #[vI 0,vI 0,vI 0,vI 0],.bool false]) (H':=(ap [] [T3])) ?_
 exact⟨T3,rfl,K_.weak (by omega),rfl⟩
def wq:Enc Eff:=⟨4,λ p k=>match k with|0=>vI p.t|1=>vI p.i|2=>vI p.k|_=>vI p.v,bx⟩
noncomputable def Lq:TypeInfo:=match Tryz.prog.info? 197 with|some i=>i|none=>⟨.bool,"",0,0,false,0,0,none,false,#[]⟩
noncomputable def Lr:Value:=match Lq.zero with|some z=>z|none=>.bool false
theorem Mr:EncOk wq Tryz.prog 197 Lq Lr where
 info:=by kernel_rfl
 zero:=by kernel_rfl
 size:=by kernel_rfl
 zsize:=by kernel_rfl
 zcell:=λ k hk=>by
  have h:∀k<4,Lr.cells[k]?=some (wq.cell wq.dflt k):=by intro k hk;(iterate 4 (rcases k with _|k;· kernel_rfl));omega
  exact h k hk
 one:=λ x k=>by unfold wq;dsimp only;split <;> rfl
 bytes:=Nat.le_of_ble_eq_true (by kernel_rfl)
def eU(g:Gm)(M:MemS):VR:=if M.get 1=0 then ⟨aP (g.step M) M,0,bx,false⟩ else if M.get 1=1 then (fj (g.step M) M) else if M.get 1=2 then (cY (g.step M) M) else if M.get 1=3 then ⟨aQ (g.step M) M,0,bx,false⟩ else if M.get 1=4 then ⟨bQ (g.step M) M,0,bx,false⟩ else if M.get 1=5 then ⟨dX (g.step M) M,0,bx,false⟩ else if M.get 1=6 then (fl (g.step M) M) else ⟨dG (g.step M) M,0,bx,false⟩
def jc(g:Gm)(M:MemS):Bool:=if M.get 1=7 then fJ (g.step M) else false
abbrev kQ(g:Gm)(M:MemS):MemS:=(eU g M).M
abbrev Ft(M:MemS):Prop:=0 <= M.get 1 /\ M.get 1 <= 7
structure GmIn(F:HL)(g:Gm):Prop where
 set:SetIn F g.S
 ins:(g.ib,.rows 3 g.iR (fS g.ins) 119 (0,0))∈F
 room:g.io+g.ni <= g.iR /\ g.ni <= 1000000
 eff:cX F
 code:CodeIn F g.code g.cA g.cn
theorem CU(g:Gm)(mb:Nat)(M:MemS)(k:Nat)(T F:HL)(hM:MemH mb M (k+20) T)(hg:GmIn F g)(h0:Ft M)(Zc:Int)(X5:g.version=Zc):Sp Tryz.prog 125 #[.iface 96 (vP mb 0),.agg #[vI g.S.players,vS g.S.bb (g.S.bo * 9) g.S.nb g.S.bc,vI g.S.box.x0,vI g.S.box.y0,vI g.S.box.x1,vI g.S.box.y1,.slice g.S.rA g.S.rn g.S.rc,.slice g.S.dA g.S.dn g.S.dc,vI g.S.fog,vI g.S.g.x,vI g.S.g.y,vI g.S.push,vI g.S.drag,vI g.S.rest,vI g.S.rounds,vI g.S.fuel],.agg #[.slice g.cA g.cn g.cc,vI g.e0,vI g.e1,vI g.e2],vI Zc,vS g.ib (g.io * 3) g.ni g.ic] (ap [] [T]) F (λ u H'=>∃x,H'=ap [] [x] /\ (MemH mb (kQ g M) k x /\ u=.tuple #[.bool (jc g M),.agg #[vI ((eU g M).e.t),vI ((eU g M).e.i),vI ((eU g M).e.k),vI ((eU g M).e.v)],.bool ((eU g M).em)])):=by
 subst X5
 by_cases h0:M.get 1=0
 ·rw[kQ,show eU g M=⟨aP (g.step M) M,0,bx,false⟩ by simp only[eU,if_pos h0],show jc g M=false by simp[jc,h0]]
  exact Mj g mb M k T F hM hg.set h0 hg.ins hg.room
 by_cases h1:M.get 1=1
 ·rw[kQ,show eU g M=(fj (g.step M) M) by simp only[eU,if_neg h0,if_pos h1],show jc g M=false by simp[jc,h1]]
  exact Ml g mb M k T F hM hg.set h1 hg.eff hg.code
 by_cases h2:M.get 1=2
 ·rw[kQ,show eU g M=(cY (g.step M) M) by simp only[eU,if_neg h0,if_neg h1,if_pos h2],show jc g M=false by simp[jc,h2]]
  exact trans2 g mb M k T F hM hg.set h2 hg.eff hg.code
 by_cases h3:M.get 1=3
 ·rw[kQ,show eU g M=⟨aQ (g.step M) M,0,bx,false⟩ by simp only[eU,if_neg h0,if_neg h1,if_neg h2,if_pos h3],show jc g M=false by simp[jc,h3]]
  exact Mm g mb M k T F hM hg.set h3
 by_cases h4:M.get 1=4
 ·rw[kQ,show eU g M=⟨bQ (g.step M) M,0,bx,false⟩ by simp only[eU,if_neg h0,if_neg h1,if_neg h2,if_neg h3,if_pos h4],show jc g M=false by simp[jc,h4]]
  exact Mn g mb M k T F hM hg.set h4
 by_cases h5:M.get 1=5
 ·rw[kQ,show eU g M=⟨dX (g.step M) M,0,bx,false⟩ by simp only[eU,if_neg h0,if_neg h1,if_neg h2,if_neg h3,if_neg h4,if_pos h5],show jc g M=false by simp[jc,h5]]
  exact Mo g mb M k T F hM hg.set h5
 by_cases h6:M.get 1=6
 ·rw[kQ,show eU g M=(fl (g.step M) M) by simp only[eU,if_neg h0,if_neg h1,if_neg h2,if_neg h3,if_neg h4,if_neg h5,if_pos h6],show jc g M=false by simp[jc,h6]]
  exact Mp g mb M k T F hM hg.set h6 hg.eff hg.code
 have h7:M.get 1=7:=by omega
 rw[kQ,show eU g M=⟨dG (g.step M) M,0,bx,false⟩ by simp only[eU,if_neg h0,if_neg h1,if_neg h2,if_neg h3,if_neg h4,if_neg h5,if_neg h6],show jc g M=fJ (g.step M) by simp[jc,h7]]
 exact Mq g mb M k T F hM hg.set h7
def gm(g:Gm):Nat -> MemS -> MemS
 | 0,M=>M
 | n+1,M=>gm g n (kQ g M)
def fK(g:Gm):Nat -> MemS -> List Eff
 | 0,_=>[]
 | n+1,M=>(if (eU g M).em=true then [(eU g M).e] else [])++fK g n (kQ g M)
def dP(g:Gm):Nat -> MemS -> Prop
 | 0,_=>False
 | n+1,M=>Ft M /\ ((n=0 /\ jc g M=true) \/ (jc g M=false /\ dP g n (kQ g M)))
theorem th{g:Gm}{n:Nat}{M:MemS}(h:(eU g M).em=true):fK g (n+1) M=(eU g M).e::fK g n (kQ g M):=by rw[fK,if_pos h];rfl
theorem nR{g:Gm}{n:Nat}{M:MemS}(h:¬ (eU g M).em=true):fK g (n+1) M=fK g n (kQ g M):=by rw[fK,if_neg h];rfl
def Shp.nm(s:Shp):Shp:=⟨s.r,s.poly,none,0⟩
def Bod.nm(b:Bod):Bod:=⟨b.sh.nm,b.mot,b.a,b.b⟩
def Setup.nm(S:Setup):Setup:={ S with bb:=0,bo:=0,bc:=0,bR:=0,bods:=(S.bods.drop S.bo).map Bod.nm,rA:=none,rc:=0,dA:=none,dc:=0 }
def Stp.nm(t:Stp):Stp:={ t with S:=t.S.nm,cA:=none,cc:=0,ib:=0,io:=0,ic:=0,iR:=0,ins:=[] }
theorem CV{α:Type}(l:List α)(o k:Nat)(d:α):(l.drop o).getD (0+k) d=l.getD (o+k) d:=by
 rw[Nat.zero_add,List.getD_eq_getElem?_getD,List.getD_eq_getElem?_getD,List.getElem?_drop]
theorem Fu{α β:Type}(f:α -> β)(l:List α)(k:Nat)(d:α):(l.map f).getD k (f d)=f (l.getD k d):=by
 rw[List.getD_eq_getElem?_getD,List.getD_eq_getElem?_getD,List.getElem?_map]
 cases l[k]? <;> rfl
theorem qh(S:Setup)(k:Nat):S.nm.body k=(S.body k).nm:=by
 show ((S.bods.drop S.bo).map Bod.nm).getD (0+k) dB=Bod.nm (S.bods.getD (S.bo+k) dB)
 rw[<- CV S.bods S.bo k dB]
 exact Fu Bod.nm _ _ dB
theorem kr(S:Setup):S.nm.players=S.players:=rfl
theorem ik(S:Setup):S.nm.nb=S.nb:=rfl
theorem Fv(S:Setup):S.nm.box=S.box:=rfl
theorem Ms(S:Setup):S.nm.g=S.g:=rfl
theorem CW(S:Setup):S.nm.push=S.push:=rfl
theorem CX(S:Setup):S.nm.drag=S.drag:=rfl
theorem ti(S:Setup):S.nm.rest=S.rest:=rfl
theorem wt(S:Setup):S.nm.rounds=S.rounds:=rfl
theorem tj(S:Setup):S.nm.fuel=S.fuel:=rfl
theorem Ba(t:Stp):t.nm.cn=t.cn:=rfl
theorem Bb(t:Stp):t.nm.e0=t.e0:=rfl
theorem Jz(t:Stp):t.nm.e1=t.e1:=rfl
theorem Bc(t:Stp):t.nm.e2=t.e2:=rfl
theorem uM(t:Stp):t.nm.version=t.version:=rfl
theorem dj(t:Stp):t.nm.i=t.i:=rfl
theorem gR(t:Stp):t.nm.j=t.j:=rfl
theorem zh(t:Stp):t.nm.ended=t.ended:=rfl
theorem qj(t:Stp):t.nm.f0=t.f0:=rfl
theorem ql(t:Stp):t.nm.f1=t.f1:=rfl
theorem qm(t:Stp):t.nm.f2=t.f2:=rfl
theorem qn(t:Stp):t.nm.f3=t.f3:=rfl
theorem il(t:Stp):t.nm.emitted=t.emitted:=rfl
theorem oL(t:Stp):t.nm.code=t.code:=rfl
theorem bE(t:Stp):t.nm.S=t.S.nm:=rfl
theorem Bd(b:Bod):b.nm.sh=b.sh.nm:=rfl
theorem wu(b:Bod):b.nm.mot=b.mot:=rfl
theorem Mt(s:Shp):s.nm.r=s.r:=rfl
theorem js(S:Setup)(k:Int) :ah S.nm k=ah S k:=by
 unfold ah
 simp only[kr,bE] <;> rfl
theorem fm(S:Setup)(k:Int) :af S.nm k=af S k:=by
 unfold af
 simp only[kr,ik,bE] <;> rfl
theorem uN(S:Setup)(k:Int) :(movP S.nm k)=(movP S k):=by
 unfold movP
 simp only[ik,bE,wu,qh] <;> rfl
theorem nS(S:Setup)(M:MemS)(k:Int) :ao S.nm M k=ao S M k:=by
 unfold ao
 simp only[bE,wu,qh,fm] <;> rfl
theorem wv(a:Shp)(pa:V2)(b:Shp)(pb:V2) :cy a.nm pa b.nm pb=cy a pa b pb:=by
 kernel_rfl
theorem Fw(a:Shp)(pa va:V2)(b:Shp)(pb vb:V2) :my a.nm pa va b.nm pb vb=my a pa va b pb vb:=by
 kernel_rfl
theorem zi(t:Stp)(k:Int)(m:Mot)(M:MemS) :dN t.nm k m M=dN t k m M:=by
 unfold dN
 simp only[bE,fm] <;> rfl
theorem CY(t:Stp)(c sp pos lo hi:Int)(M:MemS) :eh t.nm c sp pos lo hi M=eh t c sp pos lo hi M:=by
 unfold eh
 simp only[ti,bE] <;> rfl
theorem tn(t:Stp)(M:MemS) :bm t.nm M=bm t M:=by
 unfold bm
 simp only[uM,dj,bE] <;> rfl
theorem tp(t:Stp)(M:MemS) :bX t.nm M=bX t M:=by
 unfold bX
 simp only[kr,dj,bE] <;> rfl
theorem wx(t:Stp) :fJ t.nm=fJ t:=by
 unfold fJ
 simp only[ik,dj,zh,bE] <;> rfl
theorem Fx(t:Stp)(M:MemS) :ge t.nm M=ge t M:=by
 unfold ge
 simp only[dj,bE,fm] <;> rfl
theorem Fy(t:Stp)(M:MemS) :gX t.nm M=gX t M:=by
 unfold gX
 simp only[ik,dj,bE] <;> rfl
theorem wy(t:Stp)(M:MemS) :dG t.nm M=dG t M:=by
 unfold dG
 simp only[bE,Fx,Fy] <;> rfl
theorem CZ(t:Stp)(M:MemS) :bZ t.nm M=bZ t M:=by
 unfold bZ
 simp only[Ms,CW,CX,dj,bE,js,nS] <;> rfl
theorem C0(t:Stp)(M:MemS) :bH t.nm M=bH t M:=by
 unfold bH
 simp only[dj,bE,fm] <;> rfl
theorem C1(t:Stp)(M:MemS) :bK t.nm M=bK t M:=by
 unfold bK
 simp only[dj,bE,fm,uN,CZ] <;> rfl
theorem C2(t:Stp)(M:MemS) :b6 t.nm M=b6 t M:=by
 unfold b6
 simp only[ik,dj,bE] <;> rfl
theorem tq(t:Stp)(M:MemS) :aQ t.nm M=aQ t M:=by
 unfold aQ
 simp only[bE,C0,C1,C2] <;> rfl
theorem zj(t:Stp)(M:MemS) :gy t.nm M=gy t M:=by
 unfold gy
 simp only[dj,bE,nS] <;> rfl
theorem zk(t:Stp)(M:MemS) :di t.nm M=di t M:=by
 unfold di
 simp only[Fv,dj,bE,fm,CY,zj] <;> rfl
theorem Fz(S:Setup)(op n a b:Int)(M:MemS) :aE S.nm op n a b M=aE S op n a b M:=by
 unfold aE
 simp only[bE,fm] <;> rfl
theorem FB(S:Setup)(op n sp pc fuel:Int)(M:MemS) :bW S.nm op n sp pc fuel M=bW S op n sp pc fuel M:=by
 unfold bW
 simp only[tj,bE,Fz] <;> rfl
theorem FC(S:Setup)(code:List Ins)(n:Nat)(M:MemS) :ak S.nm code n M=ak S code n M:=by
 unfold ak
 simp only[oL,bE,FB] <;> rfl
theorem uO(e:Int)(t:Stp)(self other:Int)(M:MemS) :eS e t.nm self other M=eS e t self other M:=by
 unfold eS
 simp only[tj,Ba,gR,il,oL,bE,FC,qj,ql,qm,qn] <;> rfl
theorem uP(e:Int)(t:Stp)(self other:Int)(M:MemS) :dt e t.nm self other M=dt e t self other M:=by
 unfold dt
 simp only[Ba,gR,oL,bE] <;> rfl
theorem wz(r:VR)(over:Bool)(t:Stp)(RY:Bool)(M:MemS) :dH r over t.nm RY M=dH r over t RY M:=by
 unfold dH
 simp only[dj,gR,il,bE,Mt,qj,ql,qm,qn] <;> rfl
theorem Be(t:Stp)(M:MemS) :fj t.nm M=fj t M:=by
 unfold fj
 simp only[dj,il,bE,js,qj,ql,qm,qn,Bb,Bc,uO,uP,wz] <;> rfl
theorem wA(t:Stp)(M:MemS) :cY t.nm M=cY t M:=by
 unfold cY
 simp only[bE,Jz,dj,gR,uO,uP] <;> rfl
theorem Bf(t:Stp)(M:MemS) :fl t.nm M=fl t M:=by
 unfold fl
 simp only[dj,il,bE,fm,qj,ql,qm,qn,Bb,Bc,uO,uP,wz] <;> rfl
theorem Bg(t:Stp)(M:MemS) :sF t.nm M=sF t M:=by
 unfold sF
 simp only[dj,gR,bE,Bd,qh,nS,wv] <;> rfl
theorem JA(t:Stp)(M:MemS) :wp t.nm M=wp t M:=by
 unfold wp
 simp only[ti,dj,gR,bE,nS,Bg] <;> rfl
theorem wB(t:Stp)(M:MemS) :gH t.nm M=gH t M:=by
 unfold gH
 simp only[dj,gR,bE,fm,zi,JA] <;> rfl
theorem C3(t:Stp)(M:MemS) :dT t.nm M=dT t M:=by
 unfold dT
 simp only[ik,dj,gR,bE,Bg,wB] <;> rfl
theorem JB(t:Stp)(M:MemS) :sG t.nm M=sG t M:=by
 unfold sG
 simp only[dj,gR,bE,Bd,qh,nS,Fw] <;> rfl
theorem FD(t:Stp)(M:MemS) :fc t.nm M=fc t M:=by
 unfold fc
 simp only[dj,gR,bE,uN,JB] <;> rfl
theorem FF(t:Stp)(M:MemS) :fT t.nm M=fT t M:=by
 unfold fT
 simp only[ik,dj,bE] <;> rfl
theorem wC(t:Stp)(M:MemS) :dX t.nm M=dX t M:=by
 unfold dX
 simp only[ik,dj,gR,bE,uN,zk,FD,FF] <;> rfl
theorem pH(t:Stp)(M:MemS) :bQ t.nm M=bQ t M:=by
 unfold bQ
 simp only[ik,wt,dj,gR,bE,C3] <;> rfl
def Gm.nm(g:Gm):Gm:={ g with S:=g.S.nm,cA:=none,cc:=0,ib:=0,io:=0,ic:=0,iR:=0,ins:=[] }
theorem lT(g:Gm)(M:MemS):g.nm.step M=(g.step M).nm:=rfl
structure GEq(g g':Gm):Prop where
 nm:g.nm=g'.nm
 inp:∀k,k<g.ni -> g.ins.getD (g.io+k) dI=g'.ins.getD (g'.io+k) dI
theorem C4{g g':Gm}(h:GEq g g')(M:MemS):aP (g.step M) M=aP (g'.step M) M:=by
 have hs:(g.step M).nm=(g'.step M).nm:=by rw[<- lT,<- lT,h.nm]
 unfold aP
 rw[<- tn (g.step M),hs,tn]
 generalize bm (g'.step M) M=N
 have hb:bA (g.step M) N=bA (g'.step M) N:=by
  have hS:(g.step M).S.nm=(g'.step M).S.nm:=show (g.step M).nm.S=(g'.step M).nm.S by rw[hs]
  have hi:(g.step M).i=(g'.step M).i:=show (g.step M).nm.i=(g'.step M).nm.i by rw[hs]
  have hn:(g.step M).ni=(g'.step M).ni:=show (g.step M).nm.ni=(g'.step M).nm.ni by rw[hs]
  unfold bA
  rw[<- js (g.step M).S,hS,js,hi,hn]
  by_cases h1:ah (g'.step M).S (g'.step M).i >= 0
  ·rw[if_pos h1,if_pos h1]
   by_cases h2:(g'.step M).i<(g'.step M).ni
   ·rw[if_pos h2,if_pos h2]
    have h3:0 <= (g'.step M).i:=by
     rcases Int.lt_or_le (g'.step M).i 0 with h4|h4
     ·unfold ah at h1;rw[if_pos h4] at h1;omega
     ·exact h4
    have e:(g.step M).inp (g'.step M).i.toNat=(g'.step M).inp (g'.step M).i.toNat:=by
     have h5:(g'.step M).i.toNat<g.ni:=by
      have h6:((g'.step M).ni:Int)=(g.ni:Int):=congrArg (Nat.cast) hn.symm
      omega
     exact h.inp _ h5
    rw[e]
   ·rw[if_neg h2,if_neg h2]
  ·rw[if_neg h1,if_neg h1]
 rw[hb,<- tp (g.step M),hs,tp]
theorem zl{g g':Gm}(h:GEq g g')(M:MemS):eU g M=eU g' M:=by
 have hs:(g.step M).nm=(g'.step M).nm:=by rw[<- lT,<- lT,h.nm]
 unfold eU
 rw[C4 h,<- Be (g.step M),<- wA (g.step M),<- tq (g.step M),<- pH (g.step M),<- wC (g.step M),<- Bf (g.step M),<- wy (g.step M),hs,Be,wA,tq,pH,wC,Bf,wy]
theorem FG{g g':Gm}(h:GEq g g')(M:MemS):jc g M=jc g' M:=by
 have hs:(g.step M).nm=(g'.step M).nm:=by rw[<- lT,<- lT,h.nm]
 unfold jc
 rw[<- wx (g.step M),hs,wx]
theorem Bh{g g':Gm}(h:GEq g g'):∀ (n:Nat) (M:MemS),gm g n M=gm g' n M
 | 0,_=>rfl
 | n+1,M=>by rw[gm,gm,kQ,kQ,zl h];exact Bh h n _
def MemS.sh(M:MemS)(l:List (Int × Int))(b:Int):MemS:=⟨M.cs,l++M.lg,b⟩
def VR.sh(r:VR)(l:List (Int × Int))(b:Int):VR:={ r with M:=r.M.sh l b }
theorem aU(M:MemS)(l:List (Int × Int))(b i:Int):(M.sh l b).get i=M.get i:=rfl
theorem aV(M:MemS)(l:List (Int × Int))(b i v:Int):(M.sh l b).set i v=(M.set i v).sh l b:=by
 unfold MemS.set MemS.sh
 dsimp only
 split
 ·simp
 ·rfl
theorem aX(M N:MemS)(l:List (Int × Int))(b:Int)(c:Prop)[Decidable c]:(if c then M.sh l b else N.sh l b)=(if c then M else N).sh l b:=by split <;> rfl
theorem aH(M N:VR)(l:List (Int × Int))(b:Int)(c:Prop)[Decidable c]:(if c then M.sh l b else N.sh l b)=(if c then M else N).sh l b:=by split <;> rfl
theorem aW(M:MemS)(l:List (Int × Int))(b v:Int)(e:Eff)(em:Bool):(⟨M.sh l b,v,e,em⟩:VR)=VR.sh ⟨M,v,e,em⟩ l b:=rfl
theorem aA(code:List Ins)(M:MemS)(l:List (Int × Int))(b:Int):bj code (M.sh l b)=bj code M:=rfl
theorem bS(r:VR)(l:List (Int × Int))(b:Int):(r.sh l b).z=r.z.sh l b:=rfl
theorem bF(r:VR)(l:List (Int × Int))(b:Int):(r.sh l b).M=r.M.sh l b:=rfl
theorem bT(r:VR)(l:List (Int × Int))(b:Int):(r.sh l b).v=r.v:=rfl
theorem bU(r:VR)(l:List (Int × Int))(b:Int):(r.sh l b).e=r.e:=rfl
theorem aY(r:VR)(l:List (Int × Int))(b:Int):(r.sh l b).em=r.em:=rfl
theorem nT(S:Setup)(M:MemS)(k:Int)(l_:List (Int × Int))(b_:Int):ao S (M.sh l_ b_) k=ao S M k:=by
 unfold ao
 simp only[aU,aV,aX,aH,aW,bF,bT,bU,aY,aA,bS] <;> rfl
theorem gn(t:Stp)(ph j:Int)(M:MemS)(l_:List (Int × Int))(b_:Int):aL t ph j (M.sh l_ b_)=(aL t ph j M).sh l_ b_:=by
 unfold aL
 simp only[aU,aV,aX,aH,aW,bF,bT,bU,aY,aA,bS] <;> rfl
theorem zm(t:Stp)(k:Int)(m:Mot)(M:MemS)(l_:List (Int × Int))(b_:Int):dN t k m (M.sh l_ b_)=(dN t k m M).sh l_ b_:=by
 unfold dN
 simp only[aU,aV,aX,aH,aW,bF,bT,bU,aY,aA,bS] <;> rfl
theorem C5(t:Stp)(c sp pos lo hi:Int)(M:MemS)(l_:List (Int × Int))(b_:Int):eh t c sp pos lo hi (M.sh l_ b_)=(eh t c sp pos lo hi M).sh l_ b_:=by
 unfold eh
 simp only[aU,aV,aX,aH,aW,bF,bT,bU,aY,aA,bS] <;> rfl
theorem C6(t:Stp)(M:MemS)(l_:List (Int × Int))(b_:Int):bm t (M.sh l_ b_)=(bm t M).sh l_ b_:=by
 unfold bm
 simp only[aU,aV,aX,aH,aW,bF,bT,bU,aY,aA,bS] <;> rfl
theorem C7(t:Stp)(M:MemS)(l_:List (Int × Int))(b_:Int):bA t (M.sh l_ b_)=(bA t M).sh l_ b_:=by
 unfold bA
 simp only[aU,aV,aX,aH,aW,bF,bT,bU,aY,aA,bS] <;> rfl
theorem C8(t:Stp)(M:MemS)(l_:List (Int × Int))(b_:Int):bX t (M.sh l_ b_)=(bX t M).sh l_ b_:=by
 unfold bX
 simp only[aU,aV,aX,aH,aW,bF,bT,bU,aY,aA,bS,gn] <;> rfl
theorem C9(t:Stp)(M:MemS)(l_:List (Int × Int))(b_:Int):aP t (M.sh l_ b_)=(aP t M).sh l_ b_:=by
 unfold aP
 simp only[aU,aV,aX,aH,aW,bF,bT,bU,aY,aA,bS,C6,C7,C8] <;> rfl
theorem FH(t:Stp)(M:MemS)(l_:List (Int × Int))(b_:Int):ge t (M.sh l_ b_)=(ge t M).sh l_ b_:=by
 unfold ge
 simp only[aU,aV,aX,aH,aW,bF,bT,bU,aY,aA,bS] <;> rfl
theorem tu(M:MemS)(l_:List (Int × Int))(b_:Int):∀n,cH (M.sh l_ b_) n=(cH M n).sh l_ b_
 | 0=>rfl
 | n+1=>by rw[cH,cH,tu M l_ b_ n,aV]
theorem FI(t:Stp)(M:MemS)(l_:List (Int × Int))(b_:Int):gX t (M.sh l_ b_)=(gX t M).sh l_ b_:=by
 unfold gX
 simp only[aU,aV,aX,aH,aW,bF,bT,bU,aY,aA,bS,tu] <;> rfl
theorem FJ(t:Stp)(M:MemS)(l_:List (Int × Int))(b_:Int):dG t (M.sh l_ b_)=(dG t M).sh l_ b_:=by
 unfold dG
 simp only[aU,aV,aX,aH,aW,bF,bT,bU,aY,aA,bS,FH,FI] <;> rfl
theorem Da(t:Stp)(M:MemS)(l_:List (Int × Int))(b_:Int):bZ t (M.sh l_ b_)=bZ t M:=by
 unfold bZ
 simp only[aU,aV,aX,aH,aW,bF,bT,bU,aY,aA,bS,nT] <;> rfl
theorem Db(t:Stp)(M:MemS)(l_:List (Int × Int))(b_:Int):bH t (M.sh l_ b_)=(bH t M).sh l_ b_:=by
 unfold bH
 simp only[aU,aV,aX,aH,aW,bF,bT,bU,aY,aA,bS] <;> rfl
theorem Dc(t:Stp)(M:MemS)(l_:List (Int × Int))(b_:Int):bK t (M.sh l_ b_)=(bK t M).sh l_ b_:=by
 unfold bK
 simp only[aU,aV,aX,aH,aW,bF,bT,bU,aY,aA,bS,Da] <;> rfl
theorem Dd(t:Stp)(M:MemS)(l_:List (Int × Int))(b_:Int):b6 t (M.sh l_ b_)=(b6 t M).sh l_ b_:=by
 unfold b6
 simp only[aU,aV,aX,aH,aW,bF,bT,bU,aY,aA,bS,gn] <;> rfl
theorem De(t:Stp)(M:MemS)(l_:List (Int × Int))(b_:Int):aQ t (M.sh l_ b_)=(aQ t M).sh l_ b_:=by
 unfold aQ
 simp only[aU,aV,aX,aH,aW,bF,bT,bU,aY,aA,bS,Db,Dc,Dd] <;> rfl
theorem zn(M:MemS)(l_:List (Int × Int))(b_:Int):lR (M.sh l_ b_)=lR M:=by
 unfold lR
 simp only[aU,aV,aX,aH,aW,bF,bT,bU,aY,aA,bS] <;> rfl
theorem zo(t:Stp)(M:MemS)(l_:List (Int × Int))(b_:Int):gy t (M.sh l_ b_)=gy t M:=by
 unfold gy
 simp only[aU,aV,aX,aH,aW,bF,bT,bU,aY,aA,bS,nT,zn] <;> rfl
theorem zp(t:Stp)(M:MemS)(l_:List (Int × Int))(b_:Int):di t (M.sh l_ b_)=(di t M).sh l_ b_:=by
 unfold di
 simp only[aU,aV,aX,aH,aW,bF,bT,bU,aY,aA,bS,C5,zo] <;> rfl
theorem FK(k v:Int)(M:MemS)(l_:List (Int × Int))(b_:Int):cO k v (M.sh l_ b_)=(cO k v M).sh l_ b_:=by
 unfold cO
 simp only[aU,aV,aX,aH,aW,bF,bT,bU,aY,aA,bS] <;> rfl
theorem FM(S:Setup)(op n a b:Int)(M:MemS)(l_:List (Int × Int))(b_:Int):aE S op n a b (M.sh l_ b_)=(aE S op n a b M).sh l_ b_:=by
 unfold aE
 simp only[aU,aV,aX,aH,aW,bF,bT,bU,aY,aA,bS,FK] <;> rfl
theorem JC(op sp:Int)(M:MemS)(l_:List (Int × Int))(b_:Int):dZ op sp (M.sh l_ b_)=dZ op sp M:=by
 unfold dZ
 simp only[aU,aV,aX,aH,aW,bF,bT,bU,aY,aA,bS] <;> rfl
theorem JD(op sp:Int)(M:MemS)(l_:List (Int × Int))(b_:Int):d8 op sp (M.sh l_ b_)=d8 op sp M:=by
 unfold d8
 simp only[aU,aV,aX,aH,aW,bF,bT,bU,aY,aA,bS] <;> rfl
theorem JE(op sp pc fuel:Int)(M:MemS)(l_:List (Int × Int))(b_:Int):dJ op sp pc fuel (M.sh l_ b_)=(dJ op sp pc fuel M).sh l_ b_:=by
 unfold dJ
 simp only[aU,aV,aX,aH,aW,bF,bT,bU,aY,aA,bS] <;> rfl
theorem FN(S:Setup)(op n sp pc fuel:Int)(M:MemS)(l_:List (Int × Int))(b_:Int):bW S op n sp pc fuel (M.sh l_ b_)=(bW S op n sp pc fuel M).sh l_ b_:=by
 unfold bW
 simp only[aU,aV,aX,aH,aW,bF,bT,bU,aY,aA,bS,FM,JC,JD,JE] <;> rfl
theorem wD(code:List Ins)(n:Nat)(M:MemS)(l_:List (Int × Int))(b_:Int):(dV code n (M.sh l_ b_))=(dV code n M):=by
 unfold dV
 simp only[aU,aV,aX,aH,aW,bF,bT,bU,aY,aA,bS] <;> rfl
theorem FO(op sp:Int)(r:VR)(l_:List (Int × Int))(b_:Int):ci op sp (r.sh l_ b_)=(ci op sp r).sh l_ b_:=by
 unfold ci
 simp only[aU,aV,aX,aH,aW,bF,bT,bU,aY,aA,bS] <;> rfl
theorem FP(S:Setup)(code:List Ins)(n:Nat)(M:MemS)(l_:List (Int × Int))(b_:Int):ak S code n (M.sh l_ b_)=(ak S code n M).sh l_ b_:=by
 unfold ak
 simp only[aU,aV,aX,aH,aW,bF,bT,bU,aY,aA,bS,FN,wD,FO] <;> rfl
theorem JF(code:List Ins)(n:Nat)(M:MemS)(l_:List (Int × Int))(b_:Int):bq code n (M.sh l_ b_)=bq code n M:=by
 unfold bq
 simp only[aU,aV,aX,aH,aW,bF,bT,bU,aY,aA,bS,wD] <;> rfl
theorem Df(e fuel self other:Int)(M:MemS)(l_:List (Int × Int))(b_:Int):aM e fuel self other (M.sh l_ b_)=(aM e fuel self other M).sh l_ b_:=by
 unfold aM
 simp only[aU,aV,aX,aH,aW,bF,bT,bU,aY,aA,bS] <;> rfl
theorem uQ(e:Int)(t:Stp)(self other:Int)(M:MemS)(l_:List (Int × Int))(b_:Int):eS e t self other (M.sh l_ b_)=(eS e t self other M).sh l_ b_:=by
 unfold eS
 simp only[aU,aV,aX,aH,aW,bF,bT,bU,aY,aA,bS,FP,Df] <;> rfl
theorem uR(e:Int)(t:Stp)(self other:Int)(M:MemS)(l_:List (Int × Int))(b_:Int):dt e t self other (M.sh l_ b_)=dt e t self other M:=by
 unfold dt
 simp only[aU,aV,aX,aH,aW,bF,bT,bU,aY,aA,bS,JF] <;> rfl
theorem wE(r:VR)(over:Bool)(t:Stp)(RY:Bool)(M:MemS)(l_:List (Int × Int))(b_:Int):dH (r.sh l_ b_) over t RY (M.sh l_ b_)=(dH r over t RY M).sh l_ b_:=by
 unfold dH
 simp only[aU,aV,aX,aH,aW,bF,bT,bU,aY,aA,bS] <;> rfl
theorem FQ(t:Stp)(o:Int)(c:Bool)(M:MemS)(l_:List (Int × Int))(b_:Int):cP t o c (M.sh l_ b_)=(cP t o c M).sh l_ b_:=by
 unfold cP b7 jI
 rw[uQ,uR,wE]
theorem FR(t:Stp)(o:Int)(c:Bool)(M:MemS)(l_:List (Int × Int))(b_:Int):cQ t o c (M.sh l_ b_)=(cQ t o c M).sh l_ b_:=by
 unfold cQ b8 jJ
 rw[uQ,uR,wE]
theorem JG(t:Stp)(M:MemS)(l_:List (Int × Int))(b_:Int):fj t (M.sh l_ b_)=(fj t M).sh l_ b_:=by
 unfold fj
 simp only[aU,aV,aX,aH,aW,bF,bT,bU,aY,aA,bS,gn,FQ] <;> rfl
theorem FS(t:Stp)(M:MemS)(l_:List (Int × Int))(b_:Int):cY t (M.sh l_ b_)=(cY t M).sh l_ b_:=by
 unfold cY
 simp only[aU,aV,aX,aH,aW,bF,bT,bU,aY,aA,bS,gn,uQ,uR] <;> rfl
theorem Bi(t:Stp)(M:MemS)(l_:List (Int × Int))(b_:Int):sF t (M.sh l_ b_)=sF t M:=by
 unfold sF
 simp only[aU,aV,aX,aH,aW,bF,bT,bU,aY,aA,bS,nT] <;> rfl
theorem JH(t:Stp)(M:MemS)(l_:List (Int × Int))(b_:Int):wp t (M.sh l_ b_)=wp t M:=by
 unfold wp
 simp only[aU,aV,aX,aH,aW,bF,bT,bU,aY,aA,bS,nT,Bi] <;> rfl
theorem wF(t:Stp)(M:MemS)(l_:List (Int × Int))(b_:Int):gH t (M.sh l_ b_)=(gH t M).sh l_ b_:=by
 unfold gH
 simp only[aU,aV,aX,aH,aW,bF,bT,bU,aY,aA,bS,zm,JH] <;> rfl
theorem Dg(t:Stp)(M:MemS)(l_:List (Int × Int))(b_:Int):dT t (M.sh l_ b_)=(dT t M).sh l_ b_:=by
 unfold dT
 simp only[aU,aV,aX,aH,aW,bF,bT,bU,aY,aA,bS,Bi,wF] <;> rfl
theorem JI(t:Stp)(M:MemS)(l_:List (Int × Int))(b_:Int):sG t (M.sh l_ b_)=sG t M:=by
 unfold sG
 simp only[aU,aV,aX,aH,aW,bF,bT,bU,aY,aA,bS,nT] <;> rfl
theorem FT(t:Stp)(M:MemS)(l_:List (Int × Int))(b_:Int):fc t (M.sh l_ b_)=(fc t M).sh l_ b_:=by
 unfold fc
 simp only[aU,aV,aX,aH,aW,bF,bT,bU,aY,aA,bS,JI] <;> rfl
theorem FU(t:Stp)(M:MemS)(l_:List (Int × Int))(b_:Int):fT t (M.sh l_ b_)=(fT t M).sh l_ b_:=by
 unfold fT
 simp only[aU,aV,aX,aH,aW,bF,bT,bU,aY,aA,bS,gn] <;> rfl
theorem FV(t:Stp)(M:MemS)(l_:List (Int × Int))(b_:Int):dX t (M.sh l_ b_)=(dX t M).sh l_ b_:=by
 unfold dX
 simp only[aU,aV,aX,aH,aW,bF,bT,bU,aY,aA,bS,zp,FT,FU] <;> rfl
theorem wG(t:Stp)(M:MemS)(l_:List (Int × Int))(b_:Int):bQ t (M.sh l_ b_)=(bQ t M).sh l_ b_:=by
 unfold bQ
 simp only[aU,aV,aX,aH,aW,bF,bT,bU,aY,aA,bS,gn,Dg] <;> rfl
theorem JK(t:Stp)(M:MemS)(l_:List (Int × Int))(b_:Int):fl t (M.sh l_ b_)=(fl t M).sh l_ b_:=by
 unfold fl
 simp only[aU,aV,aX,aH,aW,bF,bT,bU,aY,aA,bS,gn,FR] <;> rfl
theorem JL(g:Gm)(M:MemS)(l:List (Int × Int))(b:Int):g.step (M.sh l b)=g.step M:=rfl
theorem zq(g:Gm)(M:MemS)(l:List (Int × Int))(b:Int):eU g (M.sh l b)=(eU g M).sh l b:=by
 unfold eU
 simp only[JL,aU,C9,JG,FS,De,wG,FV,JK,FJ,aW,aH]
theorem FW(g:Gm)(M:MemS)(l:List (Int × Int))(b:Int):jc g (M.sh l b)=jc g M:=rfl
theorem Bj(g:Gm)(l:List (Int × Int))(b:Int):∀ (n:Nat) (M:MemS),gm g n (M.sh l b)=(gm g n M).sh l b
 | 0,_=>rfl
 | n+1,M=>by rw[gm,gm,kQ,kQ,zq,bF];exact Bj g l b n _
def Bk(g:Gm):Nat -> MemS -> Nat
 | 0,_=>0
 | f+1,M=>if jc g M=true then 0 else Bk g f (kQ g M)+1
theorem FX{g:Gm}:∀ (m f:Nat) (M:MemS),dP g (m+1) M -> m<f -> Bk g f M=m
 | m,0,M,_,h=>by omega
 | 0,f+1,M,h,_=>by
  rcases h.2 with ⟨_,e⟩|⟨_,e⟩
  ·rw[Bk,if_pos e]
  ·exact e.elim
 | m+1,f+1,M,h,hf=>by
  rcases h.2 with ⟨e,_⟩|⟨e1,e2⟩
  ·omega
  ·rw[Bk,if_neg (by rw[e1];simp),FX m f _ e2 (by omega)]
def nU(g:Gm)(M:MemS):MemS:=gm g (Bk g 1000 M+1) M
def PH(g:Gm)(M:MemS):List Eff:=fK g (Bk g 1000 M+1) M
theorem FY{g g':Gm}(h:GEq g g'):∀ (f:Nat) (M:MemS),Bk g f M=Bk g' f M
 | 0,_=>rfl
 | f+1,M=>by rw[Bk,Bk,FG h,kQ,kQ,zl h,FY h f]
theorem FZ{g g':Gm}(h:GEq g g')(M:MemS):nU g M=nU g' M:=by rw[nU,nU,FY h,Bh h]
theorem F1(g:Gm)(l:List (Int × Int))(b:Int):∀ (f:Nat) (M:MemS),Bk g f (M.sh l b)=Bk g f M
 | 0,_=>rfl
 | f+1,M=>by rw[Bk,Bk,FW,kQ,kQ,zq,bF,F1 g l b f]
theorem zr(g:Gm)(M:MemS)(l:List (Int × Int))(b:Int):nU g (M.sh l b)=(nU g M).sh l b:=by rw[nU,nU,F1,Bj]
theorem qP(M:MemS):(MemS.sh ⟨M.cs,[],0⟩ M.lg M.base)=M:=by cases M;simp[MemS.sh]
theorem qQ(g:Gm){M N:MemS}(h:M.cs=N.cs):(nU g M).cs=(nU g N).cs:=by
 rw[<- qP M,<- qP N,zr,zr,h];rfl
def iW(g:Gm):Nat -> MemS -> List (Eff × Bool)
 | 0,_=>[]
 | n+1,M=>((eU g M).e,(eU g M).em)::iW g n (kQ g M)
theorem iX(g:Gm):∀ (n:Nat) (M:MemS),(iW g n M).length=n
 | 0,_=>rfl
 | n+1,M=>by rw[iW,List.length_cons,iX g n]
def mr:List (Eff × Bool) -> List Eff
 | []=>[]
 | x::l=>(if x.2=true then [x.1] else [])++mr l
theorem wH(g:Gm):∀ (n:Nat) (M:MemS),mr (iW g n M)=fK g n M
 | 0,_=>rfl
 | n+1,M=>by rw[iW,mr,wH g n,fK]
theorem qR:∀ (l m:List (Eff × Bool)),mr (l++m)=mr l++mr m
 | [],m=>rfl
 | x::l,m=>by rw[List.cons_append,mr,mr,qR l m,List.append_assoc]
theorem wI:∀ (l:List (Eff × Bool)),(mr l).length <= l.length
 | []=>Nat.le_refl _
 | x::l=>by
  have:=wI l
  rw[mr,List.length_append,List.length_cons]
  split
  ·simp;omega
  ·simp;omega
theorem F3{l:List (Eff × Bool)}{i:Nat}{x:Eff × Bool}(h:l[i]?=some x)(e:x.2=true):mr (l.take (i+1))=mr (l.take i)++[x.1]:=by
 rw[List.take_add_one,h,qR]
 show _++((if x.2=true then [x.1] else [])++[])=_
 rw[if_pos e];rfl
theorem JM{l:List (Eff × Bool)}{i:Nat}{x:Eff × Bool}(h:l[i]?=some x)(e:¬ x.2=true):mr (l.take (i+1))=mr (l.take i):=by
 rw[List.take_add_one,h,qR]
 show _++((if x.2=true then [x.1] else [])++[])=_
 rw[if_neg e];simp
theorem gI{g:Gm}{l:List (Eff × Bool)}{i r:Nat}{M:MemS}(h:l.drop i=iW g (r+1) M):l[i]?=some ((eU g M).e,(eU g M).em) /\ l.drop (i+1)=iW g r (kQ g M):=by
 constructor
 ·have:=congrArg (·[0]?) h
  simpa [iW] using this
 ·have:=congrArg List.tail h
  rwa [List.tail_drop] at this
def vG(cs:List Int)(i:Nat):List Int:=cs.take i++List.replicate (cs.length-i) 0
theorem tw(n:Nat):ig [vI 0]=aJ (List.replicate n 0):=by
 funext i k
 rcases k with _|k
 ·have:(List.replicate n (0:Int)).getD i 0=0:=by
   rw[List.getD_eq_getElem?_getD,List.getElem?_replicate];split <;> rfl
  show vI 0=vI _
  rw[this]
 ·simp[ig,aJ]
theorem wJ(cs:List Int):ig [vI 0]=aJ (vG cs 0):=by rw[tw cs.length];simp[vG]
theorem Bl(cs:List Int):vG cs cs.length=cs:=by simp[vG]
theorem wK{cs:List Int}{i:Nat}(h:i<cs.length):dh (aJ (vG cs i)) i 0 (vI (cs.getD i 0))=aJ (vG cs (i+1)):=by
 rw[gC (by simp[vG];omega)]
 congr 1
 unfold vG
 rw[List.set_append_right _ _ (by simp;omega)]
 have e:cs.length-i=(cs.length-(i+1))+1:=by omega
 rw[e,List.replicate_succ,List.take_succ_eq_append_getElem h,List.append_assoc]
 simp[List.length_take,Nat.min_eq_left (Nat.le_of_lt h),h]
theorem MemH.len{mb:Nat}{M:MemS}{k:Nat}{T:HL}(h:MemH mb M k T):M.cs.length <= 1000000:=by
 cases h with
 | mk cb A cap Hl hs hc hl=>exact hc
theorem JN(mb cb n:Nat)(A:Option Addr)(m cap:Nat)(base:Int)(F:HL)(hm:(mb,.lit [vS cb 0 n n,.slice A m cap,vI base] 186 (0,0))∈F):Sp Tryz.prog 65 #[vP mb 0] [] F (λ u H'=>u=vI (n:Int) /\ H'=[]):=by
 refine Sp.run Tryz.func65 rfl (mc hm mn) (A:=[]) (Ts:=[]) rfl λ w0=>?_
 refine ae 15 [.ro 0] λ _=>?_
 exact RN.ret [] [] [] ⟨rfl,rfl⟩
theorem uS{mb:Nat}{M:MemS}{k:Nat}{T:HL}{F:HL}(h:MemH mb M k T)(hs:∀x∈T,x∈F):Sp Tryz.prog 65 #[vP mb 0] [] F (λ u H'=>u=vI (M.cs.length:Int) /\ H'=[]):=by
 cases h with
 | mk cb A cap Hl Ug hc hl=>exact JN mb cb M.cs.length A M.lg.length cap M.base F (hs _ (by simp))
theorem JO{M:MemS}{i:Nat}(h:i<M.cs.length):M.get (i:Int)=M.cs.getD i 0:=by
 unfold MemS.get
 rw[if_pos (by omega),Int.toNat_natCast]
theorem Dh(mb:Nat)(M:MemS)(k:Nat)(T F:HL)(hM:MemH mb M k T)(hT:∀x∈T,x∈F):Sp Tryz.prog 39 #[vP mb 0] (ap [] []) F (λ u H'=>∃q,H'=ap [(q,.rows 1 M.cs.length (aJ M.cs) 3 (0,0))] [] /\ u=vS q 0 M.cs.length M.cs.length):=by
 have hl:=hM.len
 refine Sp.run Tryz.func39 rfl mn (A:=[]) (Ts:=[]) rfl λ w0=>?_
 refine ae 8 [] λ _=>RN.cp (uS hM (λ x hx=>List.mem_append_right _ (hT x hx)))<|ai 8 [.mk M.cs.length M.cs.length] [(M.cs.length:Int)=((M.cs.length:Nat):Int) /\ (M.cs.length:Int)=((M.cs.length:Nat):Int) /\ M.cs.length <= M.cs.length /\ 8 * M.cs.length <= 140737488355328 /\ 1=1 /\ M.cs.length <= 9223372036854775807] λ n1=>RN.cp (uS hM (λ x hx=>List.mem_append_right _ (hT x hx)))<|ae 4 [] λ _=>cr 0 (congrArg (λ v_=>(.rows 1 M.cs.length v_ 3 (0,0):Blk)) (show (ig [vI 0])=(aJ (vG M.cs 0)) from (by rw[wJ M.cs])))<|RN.loop (σ:=Nat) (λ i=>⟨[(0,vP mb 0),(3,vS (n1+0) 0 M.cs.length M.cs.length),(9,vI (M.cs.length:Int)),(10,vI (i:Int))],[((n1+0),.rows 1 M.cs.length (aJ (vG M.cs i)) 3 (0,0))],[],i <= M.cs.length,M.cs.length-i⟩) 0 [0] [] (Nat.zero_le _) ?_
 rintro i YS QP
 refine ae 6 [] λ _=>RN.em ((i:Int)<(M.cs.length:Int)) 11 (λ h4=>?_) λ h4=>?_
 ·refine ae 16 [] λ _=>RN.cp (aw (i:Int) hM (λ x hx=>List.mem_append_right _ (hT x hx)))<|ai 9 [.ix i,.row 0 i 0,.nw] [aS ((i:Int)+1),(0+i * 1)=i * 1+0 /\ i<M.cs.length,(i:Int)=((i:Nat):Int) /\ i<M.cs.length] λ _=>cr 0 (congrArg (λ v_=>(.rows 1 M.cs.length v_ 3 (0,0):Blk)) (show (dh (aJ (vG M.cs i)) i 0 (vI (M.get (i:Int))))=(aJ (vG M.cs (i+1))) from (by rw[<- wK (cs:=M.cs) (i:=i) (by omega)];rw[JO (by omega)]))) ?_
  refine QP (i+1) [0] [] ?_
  try dsimp only
  exact⟨by omega,by omega⟩
 ·refine ae 12 [] λ _=>RN.ret [] [0] [] (v:=vS (n1+0) 0 M.cs.length M.cs.length) (H':=[((n1+0),.rows 1 M.cs.length (aJ (vG M.cs i)) 3 (0,0))]) ?_
  have ei:i=M.cs.length:=by omega
  subst ei
  exact⟨_,by rw[Bl];rfl,rfl⟩
theorem JP(q:Nat)(cs:List Int)(k cap:Nat)(F:HL)(hq:(q,.rows 1 cs.length (aJ cs) 3 (0,0))∈F)(hc:cs.length <= 1000000)(hk:k <= 100000000)(hcap:cs.length <= cap):Sp Tryz.prog 63 #[vS q 0 cs.length cap] [] F (λ u H'=>∃x:Nat × HL,H'=ap [] [x.2] /\ (u=vP x.1 0 /\ MemH x.1 ⟨cs,[],0⟩ k x.2)):=by
 refine Sp.run Tryz.func63 rfl (mc hq mn) (A:=[]) (Ts:=[]) rfl λ w0=>?_
 refine ai 24 [.mk cs.length cs.length] [(cs.length:Int)=((cs.length:Nat):Int) /\ (cs.length:Int)=((cs.length:Nat):Int) /\ cs.length <= cs.length /\ 8 * cs.length <= 140737488355328 /\ 1=1 /\ cs.length <= 9223372036854775807] λ n1=>cr 1 (congrArg (λ v_=>(.rows 1 cs.length v_ 3 (0,0):Blk)) (show (ig [vI 0])=(aJ (vG cs 0)) from (by rw[wJ cs])))<|RN.loop (σ:=Nat) (λ i=>⟨[(0,vS q 0 cs.length cap),(3,vP (n1+1) 0),(11,vI (cs.length:Int)),(12,vI (i:Int))],[((n1+1),.lit [vS (n1+0) 0 cs.length cs.length,.slice none 0 0,vI 0] 186 (0,0)),((n1+0),.rows 1 cs.length (aJ (vG cs i)) 3 (0,0))],[],i <= cs.length,cs.length-i⟩) 0 [0,1] [] (Nat.zero_le _) ?_
 rintro i YS QP
 refine ae 6 [] λ _=>RN.em ((i:Int)<(cs.length:Int)) 13 (λ h4=>?_) λ h4=>?_
 ·refine ae 11 [] λ _=>RN.draw [10] []<|aC [] [0,4,5,6,1,7,2,8,3,9] [.ix i,.rorow 0 i 0,.own 0,.ix i] [(i:Int)=((i:Nat):Int) /\ i<cs.length,(0+i * 1)=i * 1+0 /\ i<cs.length,(i:Int)=((i:Nat):Int) /\ i<cs.length]<|RD.one 10 (eA [] [.row 1 i 0] [(0+i * 1)=i * 1+0 /\ i<cs.length] λ _=>?_)
  refine RD.fin<|ai 6 [.nw] [aS ((i:Int)+1)] λ _=>cr 1 (congrArg (λ v_=>(.rows 1 cs.length v_ 3 (0,0):Blk)) (show (dh (aJ (vG cs i)) i 0 (vI (cs.getD i 0)))=(aJ (vG cs (i+1))) from (by rw[<- wK (cs:=cs) (i:=i) (by omega)]))) ?_
  refine QP (i+1) [0,1] [] ?_
  try dsimp only
  exact⟨by omega,by omega⟩
 ·refine ae 12 [] λ _=>RN.ret [] [0,1] [] (v:=vP (n1+1) 0) (H':=[((n1+1),.lit [vS (n1+0) 0 cs.length cs.length,.slice none 0 0,vI 0] 186 (0,0)),((n1+0),.rows 1 cs.length (aJ (vG cs i)) 3 (0,0))]) ?_
  have ei:i=cs.length:=by omega
  subst ei
  rw[Bl]
  have hmm:=MemH.mk (mb:=(n1+1)) (M:=⟨cs,[],0⟩) (k:=k) (n1+0) none 0 [] (SlIs.nil _ _) hc (show ([]:List (Int × Int)).length+k <= 100000000 by simpa using hk)
  exact⟨((n1+1),_),rfl,rfl,hmm⟩
def au(n Q4:Int):Int:=(if n<0 then aZ (0-aZ (n+1)) else n).tmod Q4
theorem gq(n:Int)(Q4:Int)(h0:Q4≠0)(F:HL):Sp Tryz.prog 10 #[vI n,vI Q4] [] F (λ u H'=>u=vI (au n Q4) /\ H'=[]):=by
 refine Sp.run Tryz.func10 rfl mn (A:=[]) (Ts:=[]) rfl λ w0=>?_
 refine ae 12 [] λ _=>RN.em (n<0) 6 (λ h1=>?_) λ h1=>?_
 ·refine qD 16 [.gen,.dv] (λ _=>[Q4≠0]) (λ _=>(ac h0 an)) λ _=>RN.ret [] [] [] (v:=vI ((i64.wrap (0-(i64.wrap (n+1)))).tmod Q4)) (H':=[]) ?_
  exact⟨by unfold au;simp[*],rfl⟩
 ·refine qD 11 [.dv] (λ _=>[Q4≠0]) (λ _=>(ac h0 an)) λ _=>RN.ret [] [] [] (v:=vI (n.tmod Q4)) (H':=[]) ?_
  exact⟨by unfold au;simp[*],rfl⟩
def qS(n:Int):Int:=au n 1000
def oM(n:Int):Int:=aZ (512 * aZ (1+(aZ ((qS n).tdiv 7)).tmod 5))
def sH(r:Int):List V2:=[⟨aZ (0-r),aZ (0-r)⟩,⟨r,aZ (0-r)⟩,⟨r,r⟩,⟨aZ (0-r),r⟩]
def wL(r:Int):List V2:=[⟨aZ (0-r),aZ (0-r)⟩,⟨r,aZ (0-r)⟩,⟨0,r⟩]
def wM(r:Int):List V2:=[⟨aZ (-2 * r),-300⟩,⟨aZ (2 * r),-300⟩,⟨aZ (2 * r),300⟩,⟨aZ (-2 * r),300⟩]
def cN(n:Int):Int × List V2:=if (qS n).tmod 7=0 then (oM n,[]) else if (qS n).tmod 7=1 then (oM n,[]) else if (qS n).tmod 7=2 then (oM n,[]) else if (qS n).tmod 7=3 then (0,sH (oM n)) else if (qS n).tmod 7=4 then (0,sH (oM n)) else if (qS n).tmod 7=5 then (0,wL (oM n)) else (0,wM (oM n))
def ShH(s:Shp)(T:HL):Prop:=∀F,(∀x∈T,x∈F) -> ShIn F s
theorem ShH.circle(r:Int)(A:Option Addr)(cap:Nat):ShH ⟨r,[],A,cap⟩ []:=λ F _=>.circle r A cap
theorem ShH.poly(r:Int)(l:List V2)(b cap:Nat)(h3:3 <= l.length)(h4:l.length <= cap)(h5:l.length <= 1000000):ShH ⟨r,l,some ⟨b,0,none⟩,cap⟩ [(b,.rows 2 cap (jR l) 29 (0,0))]:=λ F h=>.poly r l b cap (h _ (by simp)) h3 h4 h5
theorem wN(n:Int)(F:HL):Sp Tryz.prog 30 #[vI n] [] F (λ u H'=>∃x:Option Addr × Nat × HL,H'=ap [] [x.2.2] /\ (u=NH ⟨(cN n).1,(cN n).2,x.1,x.2.1⟩ /\ ShH ⟨(cN n).1,(cN n).2,x.1,x.2.1⟩ x.2.2)):=by
 refine Sp.run Tryz.func30 rfl mn (A:=[]) (Ts:=[]) rfl λ w0=>?_
 refine ae 8 [] λ n1=>RN.cp (gq n 1000 (by decide) _)<|ae 28 [] λ _=>RN.em ((qS n).tmod 7=0) 14 (λ h2=>?_) λ h2=>?_
 ·refine ae 11 [.own 0,.own 0] λ _=>RN.ret [.own 0,.own 0] [] [] (v:=.agg #[vI (i64.wrap (512 * (i64.wrap (1+((i64.wrap ((qS n).tdiv 7)).tmod 5))))),.slice none 0 0]) (H':=[]) ?_
  have e:cN n=(oM n,[]):=by simp only[cN,if_pos h2]
  rw[e]
  exact⟨(none,0,[]),rfl,rfl,ShH.circle _ _ _⟩
 ·refine ae 7 [] λ _=>RN.em ((qS n).tmod 7=1) 14 (λ h3=>?_) λ h3=>?_
  ·refine ae 11 [.own 0,.own 0] λ _=>RN.ret [.own 0,.own 0] [] [] (v:=.agg #[vI (i64.wrap (512 * (i64.wrap (1+((i64.wrap ((qS n).tdiv 7)).tmod 5))))),.slice none 0 0]) (H':=[]) ?_
   have e:cN n=(oM n,[]):=by simp only[cN,if_neg h2,if_pos h3]
   rw[e]
   exact⟨(none,0,[]),rfl,rfl,ShH.circle _ _ _⟩
  ·refine ae 6 [] λ _=>RN.em ((qS n).tmod 7=2) 14 (λ h4=>?_) λ h4=>?_
   ·refine ae 8 [.own 0,.own 0] λ _=>RN.ret [.own 0,.own 0] [] [] (v:=.agg #[vI (i64.wrap (512 * (i64.wrap (1+((i64.wrap ((qS n).tdiv 7)).tmod 5))))),.slice none 0 0]) (H':=[]) ?_
    have e:cN n=(oM n,[]):=by simp only[cN,if_neg h2,if_neg h3,if_pos h4]
    rw[e]
    exact⟨(none,0,[]),rfl,rfl,ShH.circle _ _ _⟩
   ·refine ae 8 [] λ _=>RN.em ((qS n).tmod 7=3) 20 (λ h5=>?_) λ h5=>?_
    ·refine ae 27 [.own 1,.own 1] λ n6=>RN.dn 0 (.rows 2 4 (jR (sH (oM n))) 29 (0,0))<|RN.ret [.own 1,.own 1] [0] [] (v:=.agg #[vI 0,vS (n6+0) 0 4 4]) (H':=[((n6+0),.rows 2 4 (jR (sH (oM n))) 29 (0,0))]) ?_
     have e:cN n=(0,sH (oM n)):=by simp only[cN,if_neg h2,if_neg h3,if_neg h4,if_pos h5]
     rw[e]
     exact⟨(some ⟨(n6+0),0,none⟩,4,_),rfl,rfl,ShH.poly 0 (sH (oM n)) (n6+0) 4 (Nat.le_of_ble_eq_true rfl) (Nat.le_of_ble_eq_true rfl) (Nat.le_of_ble_eq_true rfl)⟩
    ·refine ae 6 [] λ _=>RN.em ((qS n).tmod 7=4) 20 (λ h7=>?_) λ h7=>?_
     ·refine ae 24 [.own 1,.own 1] λ n8=>RN.dn 0 (.rows 2 4 (jR (sH (oM n))) 29 (0,0))<|RN.ret [.own 1,.own 1] [0] [] (v:=.agg #[vI 0,vS (n8+0) 0 4 4]) (H':=[((n8+0),.rows 2 4 (jR (sH (oM n))) 29 (0,0))]) ?_
      have e:cN n=(0,sH (oM n)):=by simp only[cN,if_neg h2,if_neg h3,if_neg h4,if_neg h5,if_pos h7]
      rw[e]
      exact⟨(some ⟨(n8+0),0,none⟩,4,_),rfl,rfl,ShH.poly 0 (sH (oM n)) (n8+0) 4 (Nat.le_of_ble_eq_true rfl) (Nat.le_of_ble_eq_true rfl) (Nat.le_of_ble_eq_true rfl)⟩
     ·refine ae 7 [] λ _=>RN.em ((qS n).tmod 7=5) 41 (λ h9=>?_) λ h9=>?_
      ·refine ae 19 [.own 1,.own 1] λ R3=>RN.dn 0 (.rows 2 3 (jR (wL (oM n))) 29 (0,0))<|RN.ret [.own 1,.own 1] [0] [] (v:=.agg #[vI 0,vS (R3+0) 0 3 3]) (H':=[((R3+0),.rows 2 3 (jR (wL (oM n))) 29 (0,0))]) ?_
       have e:cN n=(0,wL (oM n)):=by simp only[cN,if_neg h2,if_neg h3,if_neg h4,if_neg h5,if_neg h7,if_pos h9]
       rw[e]
       exact⟨(some ⟨(R3+0),0,none⟩,3,_),rfl,rfl,ShH.poly 0 (wL (oM n)) (R3+0) 3 (Nat.le_of_ble_eq_true rfl) (Nat.le_of_ble_eq_true rfl) (Nat.le_of_ble_eq_true rfl)⟩
      ·refine ae 23 [.own 1,.own 1] λ n11=>RN.dn 0 (.rows 2 4 (jR (wM (oM n))) 29 (0,0))<|RN.ret [.own 1,.own 1] [0] [] (v:=.agg #[vI 0,vS (n11+0) 0 4 4]) (H':=[((n11+0),.rows 2 4 (jR (wM (oM n))) 29 (0,0))]) ?_
       have e:cN n=(0,wM (oM n)):=by simp only[cN,if_neg h2,if_neg h3,if_neg h4,if_neg h5,if_neg h7,if_neg h9]
       rw[e]
       exact⟨(some ⟨(n11+0),0,none⟩,4,_),rfl,rfl,ShH.poly 0 (wM (oM n)) (n11+0) 4 (Nat.le_of_ble_eq_true rfl) (Nat.le_of_ble_eq_true rfl) (Nat.le_of_ble_eq_true rfl)⟩
theorem oN{S:Setup}(h:SetN S){i:Nat}(hi:i<S.nb):0 <= af S i /\ af S i+8 <= sizeOf S /\ sizeOf S <= 20000000:=by
 have:=h.pl
 have:=h.nb
 unfold af sizeOf
 rw[if_neg (by omega),if_neg (by omega)]
 omega
theorem Di{S:Setup}(h:SetN S):48 <= sizeOf S /\ sizeOf S <= 20000000:=by
 have:=h.pl
 have:=h.nb
 unfold sizeOf
 omega
def eT(S:Setup):Nat -> List Int
 | 0=>List.replicate (sizeOf S).toNat 0
 | i+1=>((((((eT S i).set (af S i).toNat (S.body i).mot.px).set (af S i+1).toNat (S.body i).mot.py).set (af S i+2).toNat (S.body i).mot.vx).set (af S i+3).toNat (S.body i).mot.vy).set (af S i+4).toNat (S.body i).a).set (af S i+5).toNat (S.body i).b
theorem gJ(S:Setup):∀i,(eT S i).length=(sizeOf S).toNat
 | 0=>by simp[eT]
 | i+1=>by simp[eT,gJ S i]
theorem Dj{S:Setup}(h:SetN S){i:Nat}(hi:i<S.nb):dh (dh (dh (dh (dh (dh (aJ (eT S i)) (af S i).toNat 0 (vI (S.body i).mot.px)) (af S i+1).toNat 0 (vI (S.body i).mot.py)) (af S i+2).toNat 0 (vI (S.body i).mot.vx)) (af S i+3).toNat 0 (vI (S.body i).mot.vy)) (af S i+4).toNat 0 (vI (S.body i).a)) (af S i+5).toNat 0 (vI (S.body i).b)=aJ (eT S (i+1)):=by
 have:=oN h hi
 rw[gC,gC,gC,gC,gC,gC,eT] <;> (simp only[List.length_set,gJ];omega)
open Go.Shelf
section
variable {r:Option Nat} {P:Program} {N:Nat} {D:List Deferred} {F:HL} {w0:World} {R:HL} {s:Cfg} {Q:Exit -> Act -> World -> Prop}
variable {α:Type} {e:Enc α} {T:TypeId} {inf:TypeInfo} {z:Value}
def wO(P:Program)(N j:Nat)(oo:Option Oper)(s:Cfg):Option (Option Addr × Nat × Nat × TypeId × Option Addr × Nat × Nat × TypeId × HL):=match oo with
 | some o=>match Ji P o s.L,s.Ts[j]?,([j]++oth [j] s.Ts.length).isPerm (List.range s.Ts.length) && (fh N o.dst undef s.L).isSome with
  | some (A,n,cap,T,B,m,c',tx),some Hl,true=>some (A,n,cap,T,B,m,c',tx,Hl)
  | _,_,_=>none
 | none=>none
theorem mT{j:Nat}{oo:Option Oper}{A:Option Addr}{n cap m c':Nat}{B:Option Addr}{tx:TypeId}{Hl:HL}(h:wO P N j oo s=some (A,n,cap,T,B,m,c',tx,Hl)) :
  ∃o a1 a2 t e',oo=some o /\ o.guard=none /\ o.op=.call { callee:=.builtin .append,args:=#[a1,a2],argTypes:=#[t,tx] } /\ (kJ s.L a1 && kJ s.L a2)=true /\ ie s.L a1=.slice A n cap /\ ie s.L a2=.slice B m c' /\ P.underlying t=some (.slice T) /\ P.underlying tx=some (.slice e') /\
   s.Ts[j]?=some Hl /\ ([j]++oth [j] s.Ts.length).isPerm (List.range s.Ts.length)=true /\ (fh N o.dst undef s.L).isSome=true:=by
 unfold wO at h
 split at h
 case h_2=>cases h
 rename_i o
 split at h
 case h_2=>cases h
 rename_i A' n' bY T' B' m' c2 Zd D_ h1 h3 h4
 simp only[Option.some.injEq,Prod.mk.injEq] at h
 obtain⟨e1,e2,e3,e4,e5,e6,e7,e8,e9⟩:=h
 subst e1;subst e2;subst e3;subst e4;subst e5;subst e6;subst e7;subst e8;subst e9
 obtain⟨a1,a2,t,e',q1,q2,q3,q4,q5,q6,q7⟩:=ta h1
 rw[Bool.and_eq_true] at h4
 exact⟨o,a1,a2,t,e',rfl,q1,q2,q3,q4,q5,q6,q7,h3,h4.1,h4.2⟩
end
end Go.Proofs.YtgdcbiiopbpgaaaGreatDoor
