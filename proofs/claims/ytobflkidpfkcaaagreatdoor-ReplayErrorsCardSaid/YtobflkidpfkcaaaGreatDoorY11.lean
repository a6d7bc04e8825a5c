import Derived.Test.YtobflkidpfkcaaaGreatDoorY10
import Derived.Test.YtobflkidpfkcaaaGreatDoorY06
set_option maxHeartbeats 4000000
set_option maxRecDepth 100000
set_option linter.unusedSimpArgs false
set_option linter.unusedVariables false
namespace Go.Proofs.YtobflkidpfkcaaaGreatDoor
open Go.RowKit
def rL (t:Stp) (M:MemS):Con × Bool:=cw (t.S.body t.i.toNat).sh ⟨(ar t.S M t.i).px,(ar t.S M t.i).py⟩ (t.S.body t.j.toNat).sh ⟨(ar t.S M t.j).px,(ar t.S M t.j).py⟩
def vk (t:Stp) (M:MemS):Mot × Mot:=cy (ar t.S M t.i) (ar t.S M t.j) (rL t M).1 t.S.rest
def gt (t:Stp) (M:MemS):MemS:=((dH t t.j (vk t M).2 (dH t t.i (vk t M).1 M)).set (af t.S t.i+6) (bd (t.j+1))).set (af t.S t.j+6) (bd (t.i+1))
def dM (t:Stp) (M:MemS):MemS:=if 0 <= t.i /\ t.i < t.S.nb then if 0 <= t.j /\ t.j < t.S.nb then if (rL t M).2=true then gt t M else M else M else M
def rM (t:Stp) (M:MemS):Int:=lQ (t.S.body t.i.toNat).sh ⟨(ar t.S M t.i).px,(ar t.S M t.i).py⟩ ⟨(ar t.S M t.i).vx,(ar t.S M t.i).vy⟩ (t.S.body t.j.toNat).sh ⟨(ar t.S M t.j).px,(ar t.S M t.j).py⟩ ⟨0,0⟩
def eL (t:Stp) (M:MemS):MemS:=if t.i=t.j then M else if movP t.S t.i then (if rM t M < M.get 5 then M.set 5 (rM t M) else M) else M
def fI (t:Stp) (M:MemS):MemS:=if bd (t.i+1) < t.S.nb then ((M.set 2 (bd (t.i+1))).set 3 0).set 5 1024 else (aM t 6 0 M).set 5 0
def dS (t:Stp) (M:MemS):MemS:=if 0 <= t.j /\ t.j < t.S.nb then (eL t M).set 3 (bd (t.j+1)) else fI t (if movP t.S t.i then cZ t M else M)
def dh (i j n r:Int):Int × Int × Int:=if bd (j+1) < n then (r,i,bd (j+1)) else if bd (i+2) < n then (r,bd (i+1),bd (i+2)) else (bd (r+1),0,1)
def bS (t:Stp) (M:MemS):MemS:=if (t.S.nb:Int) < 2 then (aM t 5 0 M).set 5 1024 else if M.get 4 >= t.S.rounds then (aM t 5 0 M).set 5 1024 else (((dM t M).set 4 (dh t.i t.j t.S.nb (M.get 4)).1).set 2 (dh t.i t.j t.S.nb (M.get 4)).2.1).set 3 (dh t.i t.j t.S.nb (M.get 4)).2.2
theorem yb (t:Stp)  (tb mb:Nat) (M:MemS) (k:Nat) (T F:HL) (hM:MemH mb M (k+10) T) (hS:SetIn F t.S) :Sp Tryz.prog 186 #[vP tb 0] (ap [(tb,.lit (Stp.l t mb) 267 (0,0))] [T]) F (λ u H'=>∃ x,H'=ap [(tb,.lit (Stp.l t mb) 267 (0,0))] [x] /\ (MemH mb (dM t M) k x)):=by
 have hp:=hS.pl
 have hn:=hS.nb
 have hr:=hS.room
 refine Sp.run Tryz.func186 rfl (mc hS.blk mn) (A:=[(tb,.lit (Stp.l t mb) 267 (0,0))]) (Ts:=[T]) rfl λ w0=>?_
 refine ae 8 [.own 0] λ _=>aj (pD t t.i tb mb _ (aB 0))<|ae 2 [] λ _=>RN.en (0 <= t.i /\ t.i < t.S.nb) 13 (λ h1=>?_) λ h1=>?_
 ·refine ae 5 [.own 0] λ _=>aj (pD t t.j tb mb _ (aB 0))<|ae 4 [] λ _=>RN.en (0 <= t.j /\ t.j < t.S.nb) 21 (λ h2=>?_) λ h2=>?_
  ·refine ae 4 [] λ _=>RN.draw [14,15] []<|ag [] [0,1,6,7,2,8,3,9,4,10] [.own 0,.own 0]<|au [] 5 (λ X_=>(fm t t.i tb mb M _ T _ (jf 0) hS.up.up hM (aU 0) h1))<|au [] 11 (λ X_=>(fm t t.j tb mb M _ T _ (jf 0) hS.up.up hM (aU 0) h2))<|jy (σ:=Nat × Nat) (λ ⟨n3,n4⟩=>⟨[(0,vP tb 0),(2,vP (n3+0) 0),(3,vP (n4+0) 0)],[((n4+0),.lit [vI ((ar t.S M t.j).px),vI ((ar t.S M t.j).py),vI ((ar t.S M t.j).vx),vI ((ar t.S M t.j).vy),vI ((ar t.S M t.j).inv)] 60 (0,0)),((n3+0),.lit [vI ((ar t.S M t.i).px),vI ((ar t.S M t.i).py),vI ((ar t.S M t.i).vx),vI ((ar t.S M t.i).vy),vI ((ar t.S M t.i).inv)] 60 (0,0)),(tb,.lit (Stp.l t mb) 267 (0,0))],[T],True,0⟩) ?_ ?_
   ·rintro ⟨n3,n4⟩
    refine ae 2 [] λ _=>RN.draw [33] [0,1,2]<|aJ [0,1,2] [0,5,12,14,19,26,1,6,13,15,20,27,2,7,16,21,3,8,17,22,4,18,9,23,10,24,11,25] [.own 1,.own 1,.own 0,.own 0,.own 2,.own 2,.own 2,.own 2,.ix ((t.i).toNat),.ix ((t.j).toNat),.rorow 0 (t.S.bo+((t.i).toNat)) 0,.rorow 0 (t.S.bo+((t.i).toNat)) 1,.rorow 0 (t.S.bo+((t.j).toNat)) 0,.rorow 0 (t.S.bo+((t.j).toNat)) 1] [((t.S.bo * 9+((t.j).toNat) * 9)+1)=(t.S.bo+((t.j).toNat)) * 9+1 /\ (t.S.bo+((t.j).toNat)) < t.S.bR,(t.S.bo * 9+((t.j).toNat) * 9)=(t.S.bo+((t.j).toNat)) * 9+0 /\ (t.S.bo+((t.j).toNat)) < t.S.bR,((t.S.bo * 9+((t.i).toNat) * 9)+1)=(t.S.bo+((t.i).toNat)) * 9+1 /\ (t.S.bo+((t.i).toNat)) < t.S.bR,(t.S.bo * 9+((t.i).toNat) * 9)=(t.S.bo+((t.i).toNat)) * 9+0 /\ (t.S.bo+((t.i).toNat)) < t.S.bR,t.j=(((t.j).toNat:Nat):Int) /\ (t.j).toNat < t.S.nb,t.i=(((t.i).toNat:Nat):Int) /\ (t.i).toNat < t.S.nb]<|au [0,1,2] 28 (λ X_=>(oT (t.S.bods.getD (t.S.bo+((t.i).toNat)) dB).sh (⟨(ar t.S M t.i).px,(ar t.S M t.i).py⟩:V2) (t.S.bods.getD (t.S.bo+((t.j).toNat)) dB).sh (⟨(ar t.S M t.j).px,(ar t.S M t.j).py⟩:V2) _ ((hS.shp ((t.i).toNat) (by omega)).up.up) ((hS.shp ((t.j).toNat) (by omega)).up.up)))<|ag [0,1,2] [29,30,31] []<|RD.one 32 (RDO.ev [] [] λ n6=>?_)
    refine RD.one 33 (RDO.ev [1,2,3] [.own 0,.own 0,.own 0] λ _=>?_)
    refine ag [1,2,3] [34] []<|RD.fin<|ae 8 [] λ _=>uO ((cw (t.S.bods.getD (t.S.bo+((t.i).toNat)) dB).sh (⟨(ar t.S M t.i).px,(ar t.S M t.i).py⟩:V2) (t.S.bods.getD (t.S.bo+((t.j).toNat)) dB).sh (⟨(ar t.S M t.j).px,(ar t.S M t.j).py⟩:V2)).2) 67 (λ h7=>?_) λ h7=>?_
    ·refine ae 4 [] λ _=>RN.draw [12,13] [0,3]<|ag [0,3] [0,1,2,3,4,5,6,7] (ow 2 5++ow 1 5++[.own 0,.own 0,.own 0,.own 3])<|au [0,3] 8 (λ X_=>(vj (ar t.S M t.i) (ar t.S M t.j) (cw (t.S.bods.getD (t.S.bo+((t.i).toNat)) dB).sh (⟨(ar t.S M t.i).px,(ar t.S M t.i).py⟩:V2) (t.S.bods.getD (t.S.bo+((t.j).toNat)) dB).sh (⟨(ar t.S M t.j).px,(ar t.S M t.j).py⟩:V2)).1 t.S.rest _))<|ag [0,3] [9,10,11] []<|RD.one 12 (RDO.ev [0,3] (ow 2 5) λ _=>?_)
     refine RD.one 13 (RDO.ev [0,3] (ow 1 5) λ _=>?_)
     refine RD.fin<|ae 2 [] λ _=>RN.draw [6] []<|ag [] [0,1,5,2,3,4] (ow 2 5++[.own 3])<|RD.one 6 (RDO.ct [] [3] [0] (lP t t.i ((cy (ar t.S M t.i) (ar t.S M t.j) (cw (t.S.bods.getD (t.S.bo+((t.i).toNat)) dB).sh (⟨(ar t.S M t.i).px,(ar t.S M t.i).py⟩:V2) (t.S.bods.getD (t.S.bo+((t.j).toNat)) dB).sh (⟨(ar t.S M t.j).px,(ar t.S M t.j).py⟩:V2)).1 t.S.rest).1) tb mb M (k+6) T _ hM hS.up ) ?_)
     rintro _ T8 hM9
     refine RD.fin<|ae 2 [] λ _=>RN.draw [6] []<|ag [] [0,1,5,2,3,4] (ow 2 5++[.own 0])<|RD.one 6 (RDO.ct [] [0] [0] (lP t t.j ((cy (ar t.S M t.i) (ar t.S M t.j) (cw (t.S.bods.getD (t.S.bo+((t.i).toNat)) dB).sh (⟨(ar t.S M t.i).px,(ar t.S M t.i).py⟩:V2) (t.S.bods.getD (t.S.bo+((t.j).toNat)) dB).sh (⟨(ar t.S M t.j).px,(ar t.S M t.j).py⟩:V2)).1 t.S.rest).2) tb mb (dH t t.i ((cy (ar t.S M t.i) (ar t.S M t.j) (cw (t.S.bods.getD (t.S.bo+((t.i).toNat)) dB).sh (⟨(ar t.S M t.i).px,(ar t.S M t.i).py⟩:V2) (t.S.bods.getD (t.S.bo+((t.j).toNat)) dB).sh (⟨(ar t.S M t.j).px,(ar t.S M t.j).py⟩:V2)).1 t.S.rest).1) M) (k+2) T8 _ hM9 hS.up ) ?_)
     rintro _ T10 hM11
     refine RD.fin<|ae 2 [] λ _=>RN.draw [21] []<|ag [] [0,4,8,14,1,5,9,15,2,6,10,16,3,7,11,17,18,19,20] (ow 0 19)<|au [] 12 (λ X_=>(cI t.S t.i _ hS.toSetN)) ?_
     have hb12:=cH hS.toSetN t.i
     refine aJ [] [13] [.nw] [bg ((af t.S t.i)+6)]<|RD.one 21 (RDO.ct [] [] [0] (ak ((af t.S t.i)+6) (IntKind.i64.wrap (t.j+1)) hM11) ?_)
     rintro _ T13 hM14
     refine RD.fin<|ae 1 [] λ _=>RN.draw [21] []<|ag [] [0,4,8,14,1,5,9,15,2,6,10,16,3,7,11,17,18,19,20] (ow 0 19)<|au [] 12 (λ X_=>(cI t.S t.j _ hS.toSetN)) ?_
     have hb15:=cH hS.toSetN t.j
     refine aJ [] [13] [.nw] [bg ((af t.S t.j)+6)]<|RD.one 21 (RDO.ct [] [] [0] (ak ((af t.S t.j)+6) (IntKind.i64.wrap (t.i+1)) hM14) ?_)
     rintro _ T16 hM17
     refine RD.fin<|RN.ret [] [0] [0] (v:=.tuple #[]) (H':=(ap [(tb,.lit (Stp.l t mb) 267 (0,0))] [T16])) ?_
     refine ⟨T16,rfl,?_⟩
     have e:dM t M=(((dH t t.j ((cy (ar t.S M t.i) (ar t.S M t.j) (cw (t.S.bods.getD (t.S.bo+((t.i).toNat)) dB).sh (⟨(ar t.S M t.i).px,(ar t.S M t.i).py⟩:V2) (t.S.bods.getD (t.S.bo+((t.j).toNat)) dB).sh (⟨(ar t.S M t.j).px,(ar t.S M t.j).py⟩:V2)).1 t.S.rest).2) (dH t t.i ((cy (ar t.S M t.i) (ar t.S M t.j) (cw (t.S.bods.getD (t.S.bo+((t.i).toNat)) dB).sh (⟨(ar t.S M t.i).px,(ar t.S M t.i).py⟩:V2) (t.S.bods.getD (t.S.bo+((t.j).toNat)) dB).sh (⟨(ar t.S M t.j).px,(ar t.S M t.j).py⟩:V2)).1 t.S.rest).1) M)).set ((af t.S t.i)+6) (IntKind.i64.wrap (t.j+1))).set ((af t.S t.j)+6) (IntKind.i64.wrap (t.i+1))):=by
      unfold dM
      rw [if_pos (show 0 <= t.i /\ t.i < t.S.nb from h1),if_pos (show 0 <= t.j /\ t.j < t.S.nb from h2),if_pos (show (rL t M).2=true from h7)]
      first | done | rfl
     rw [e]
     exact hM17.weak (by omega)
    ·refine ae 1 [] λ _=>RN.ret [] [3] [0] (v:=.tuple #[]) (H':=(ap [(tb,.lit (Stp.l t mb) 267 (0,0))] [T])) ?_
     refine ⟨T,rfl,?_⟩
     have e:dM t M=M:=by
      unfold dM
      rw [if_pos (show 0 <= t.i /\ t.i < t.S.nb from h1),if_pos (show 0 <= t.j /\ t.j < t.S.nb from h2),if_neg (show ¬ ((rL t M).2=true) from h7)]
      first | done | rfl
     rw [e]
     exact hM.weak (by omega)
   ·intro key18
    refine fH 12 13 ?_ ?_
    ·refine RDO.ev [] [] λ n19=>RD.one 13 (RDO.ev [] [] λ n20=>?_)
     refine RD.one 14 (RDO.ev [] (ow 1 5) λ _=>?_)
     refine RD.one 15 (RDO.ev [] (ow 0 5) λ _=>?_)
     exact key18 ⟨n19,n20⟩ [0,1,2] [0]
    ·refine RDO.ev [] [] λ n21=>RD.one 12 (RDO.ev [] [] λ n22=>?_)
     refine RD.one 14 (RDO.ev [] (ow 0 5) λ _=>?_)
     refine RD.one 15 (RDO.ev [] (ow 1 5) λ _=>?_)
     exact key18 ⟨n22,n21⟩ [1,0,2] [0]
  ·refine ae 1 [] λ _=>RN.ret [] [0] [0] (v:=.tuple #[]) (H':=(ap [(tb,.lit (Stp.l t mb) 267 (0,0))] [T])) ?_
   refine ⟨T,rfl,?_⟩
   have e:dM t M=M:=by
    unfold dM
    rw [if_pos (show 0 <= t.i /\ t.i < t.S.nb from h1),if_neg (show ¬ (0 <= t.j /\ t.j < t.S.nb) from h2)]
    first | done | rfl
   rw [e]
   exact hM.weak (by omega)
 ·refine ae 11 [] λ _=>RN.ret [] [0] [0] (v:=.tuple #[]) (H':=(ap [(tb,.lit (Stp.l t mb) 267 (0,0))] [T])) ?_
  refine ⟨T,rfl,?_⟩
  have e:dM t M=M:=by
   unfold dM
   rw [if_neg (show ¬ (0 <= t.i /\ t.i < t.S.nb) from h1)]
   first | done | rfl
  rw [e]
  exact hM.weak (by omega)
theorem BS (t:Stp)  (tb mb:Nat) (M:MemS) (k:Nat) (T F:HL) (hM:MemH mb M (k+1) T) (hS:SetIn F t.S) (hj:0 <= t.j /\ t.j < t.S.nb):Sp Tryz.prog 189 #[vP tb 0] (ap [(tb,.lit (Stp.l t mb) 267 (0,0))] [T]) F (λ u H'=>∃ x,H'=ap [(tb,.lit (Stp.l t mb) 267 (0,0))] [x] /\ (MemH mb (eL t M) k x)):=by
 have hp:=hS.pl
 have hn:=hS.nb
 have hr:=hS.room
 refine Sp.run Tryz.func189 rfl (mc hS.blk mn) (A:=[(tb,.lit (Stp.l t mb) 267 (0,0))]) (Ts:=[T]) rfl λ w0=>?_
 refine ae 2 [] λ _=>RN.draw [] []<|ag [] [0,4,1,5,2,6,3,7,8,9] [.own 0,.own 0]<|RD.em (t.i=t.j) 14 (λ h1=>?_) λ h1=>?_
 ·refine ag [] [10,11,12,13,14,15,16,17] []<|RD.fin<|ae 2 [] λ _=>RN.ret [] [0] [0] (v:=.tuple #[]) (H':=(ap [(tb,.lit (Stp.l t mb) 267 (0,0))] [T])) ?_
  refine ⟨T,rfl,?_⟩
  have e:eL t M=M:=by
   unfold eL
   rw [if_pos (show t.i=t.j from h1)]
   first | done | rfl
  rw [e]
  exact hM.weak (by omega)
 ·refine ag [] [10,11,12,13,14] [.own 0]<|au [] 15 (λ X_=>(i4 t t.i tb mb _ (jf 0) hS.up.up))<|ag [] [16,17] []<|RD.fin<|ae 1 [] λ _=>RN.en (movP t.S t.i) 22 (λ h2=>?_) λ h2=>?_
  ·have:=movP.has h2
   refine ae 4 [] λ _=>RN.draw [14,15] []<|ag [] [0,1,6,7,2,8,3,9,4,10] [.own 0,.own 0]<|au [] 5 (λ X_=>(fm t t.i tb mb M _ T _ (jf 0) hS.up.up hM (aU 0) (movP.has h2)))<|au [] 11 (λ X_=>(fm t t.j tb mb M _ T _ (jf 0) hS.up.up hM (aU 0) hj))<|jy (σ:=Nat × Nat) (λ ⟨n3,n4⟩=>⟨[(0,vP tb 0),(2,vP (n3+0) 0),(3,vP (n4+0) 0)],[((n4+0),.lit [vI ((ar t.S M t.j).px),vI ((ar t.S M t.j).py),vI ((ar t.S M t.j).vx),vI ((ar t.S M t.j).vy),vI ((ar t.S M t.j).inv)] 60 (0,0)),((n3+0),.lit [vI ((ar t.S M t.i).px),vI ((ar t.S M t.i).py),vI ((ar t.S M t.i).vx),vI ((ar t.S M t.i).vy),vI ((ar t.S M t.i).inv)] 60 (0,0)),(tb,.lit (Stp.l t mb) 267 (0,0))],[T],True,0⟩) ?_ ?_
   ·rintro ⟨n3,n4⟩
    refine ae 2 [] λ _=>RN.draw [] []<|aJ [] [0,5,12,14,16,21,28,30,1,6,13,15,17,22,29,2,7,18,23,3,8,19,24,4,20,9,25,10,26,11,27] [.own 1,.own 1,.own 1,.own 1,.own 0,.own 0,.own 2,.own 2,.own 2,.own 2,.ix ((t.i).toNat),.ix ((t.j).toNat),.rorow 0 (t.S.bo+((t.i).toNat)) 0,.rorow 0 (t.S.bo+((t.i).toNat)) 1,.rorow 0 (t.S.bo+((t.j).toNat)) 0,.rorow 0 (t.S.bo+((t.j).toNat)) 1] [((t.S.bo * 9+((t.j).toNat) * 9)+1)=(t.S.bo+((t.j).toNat)) * 9+1 /\ (t.S.bo+((t.j).toNat)) < t.S.bR,(t.S.bo * 9+((t.j).toNat) * 9)=(t.S.bo+((t.j).toNat)) * 9+0 /\ (t.S.bo+((t.j).toNat)) < t.S.bR,((t.S.bo * 9+((t.i).toNat) * 9)+1)=(t.S.bo+((t.i).toNat)) * 9+1 /\ (t.S.bo+((t.i).toNat)) < t.S.bR,(t.S.bo * 9+((t.i).toNat) * 9)=(t.S.bo+((t.i).toNat)) * 9+0 /\ (t.S.bo+((t.i).toNat)) < t.S.bR,t.j=(((t.j).toNat:Nat):Int) /\ (t.j).toNat < t.S.nb,t.i=(((t.i).toNat:Nat):Int) /\ (t.i).toNat < t.S.nb]<|au [] 31 (λ X_=>(tU (t.S.bods.getD (t.S.bo+((t.i).toNat)) dB).sh (⟨(ar t.S M t.i).px,(ar t.S M t.i).py⟩:V2) (⟨(ar t.S M t.i).vx,(ar t.S M t.i).vy⟩:V2) (t.S.bods.getD (t.S.bo+((t.j).toNat)) dB).sh (⟨(ar t.S M t.j).px,(ar t.S M t.j).py⟩:V2) (⟨0,0⟩:V2) _ ((hS.shp ((t.i).toNat) (by omega)).up.up) ((hS.shp ((t.j).toNat) (by omega)).up.up)))<|ag [] [32] []<|RD.fin<|ae 8 [.own 2] λ _=>aj (az 5 hM (av 0))<|ae 3 [] λ _=>RN.em (lQ (t.S.bods.getD (t.S.bo+((t.i).toNat)) dB).sh (⟨(ar t.S M t.i).px,(ar t.S M t.i).py⟩:V2) (⟨(ar t.S M t.i).vx,(ar t.S M t.i).vy⟩:V2) (t.S.bods.getD (t.S.bo+((t.j).toNat)) dB).sh (⟨(ar t.S M t.j).px,(ar t.S M t.j).py⟩:V2) (⟨0,0⟩:V2) < M.get 5) 73 (λ h5=>?_) λ h5=>?_
    ·refine ae 7 [.own 2] λ _=>RN.ct [] [0] (ak 5 (lQ (t.S.bods.getD (t.S.bo+((t.i).toNat)) dB).sh (⟨(ar t.S M t.i).px,(ar t.S M t.i).py⟩:V2) (⟨(ar t.S M t.i).vx,(ar t.S M t.i).vy⟩:V2) (t.S.bods.getD (t.S.bo+((t.j).toNat)) dB).sh (⟨(ar t.S M t.j).px,(ar t.S M t.j).py⟩:V2) (⟨0,0⟩:V2)) hM) ?_
     rintro _ T6 hM7
     refine ae 1 [] λ _=>RN.ret [] [2] [0] (v:=.tuple #[]) (H':=(ap [(tb,.lit (Stp.l t mb) 267 (0,0))] [T6])) ?_
     refine ⟨T6,rfl,?_⟩
     have e:eL t M=(M.set 5 (lQ (t.S.bods.getD (t.S.bo+((t.i).toNat)) dB).sh (⟨(ar t.S M t.i).px,(ar t.S M t.i).py⟩:V2) (⟨(ar t.S M t.i).vx,(ar t.S M t.i).vy⟩:V2) (t.S.bods.getD (t.S.bo+((t.j).toNat)) dB).sh (⟨(ar t.S M t.j).px,(ar t.S M t.j).py⟩:V2) (⟨0,0⟩:V2))):=by
      unfold eL
      rw [if_neg (show ¬ (t.i=t.j) from h1),if_pos (show movP t.S t.i from h2),if_pos (show rM t M < M.get 5 from h5)]
      first | done | rfl
     rw [e]
     exact hM7.weak (by omega)
    ·refine ae 2 [] λ _=>RN.ret [] [2] [0] (v:=.tuple #[]) (H':=(ap [(tb,.lit (Stp.l t mb) 267 (0,0))] [T])) ?_
     refine ⟨T,rfl,?_⟩
     have e:eL t M=M:=by
      unfold eL
      rw [if_neg (show ¬ (t.i=t.j) from h1),if_pos (show movP t.S t.i from h2),if_neg (show ¬ (rM t M < M.get 5) from h5)]
      first | done | rfl
     rw [e]
     exact hM.weak (by omega)
   ·intro key8
    refine fH 12 13 ?_ ?_
    ·refine RDO.ev [] [] λ n9=>RD.one 13 (RDO.ev [] [] λ n10=>?_)
     refine RD.one 14 (RDO.ev [] (ow 1 5) λ _=>?_)
     refine RD.one 15 (RDO.ev [] (ow 0 5) λ _=>?_)
     exact key8 ⟨n9,n10⟩ [0,1,2] [0]
    ·refine RDO.ev [] [] λ n11=>RD.one 12 (RDO.ev [] [] λ n12=>?_)
     refine RD.one 14 (RDO.ev [] (ow 0 5) λ _=>?_)
     refine RD.one 15 (RDO.ev [] (ow 1 5) λ _=>?_)
     exact key8 ⟨n12,n11⟩ [1,0,2] [0]
  ·refine ae 1 [] λ _=>RN.ret [] [0] [0] (v:=.tuple #[]) (H':=(ap [(tb,.lit (Stp.l t mb) 267 (0,0))] [T])) ?_
   refine ⟨T,rfl,?_⟩
   have e:eL t M=M:=by
    unfold eL
    rw [if_neg (show ¬ (t.i=t.j) from h1),if_neg (show ¬ (movP t.S t.i) from h2)]
    first | done | rfl
   rw [e]
   exact hM.weak (by omega)
theorem BT (t:Stp)  (tb mb:Nat) (M:MemS) (k:Nat) (T F:HL) (hM:MemH mb M (k+8) T) (hS:SetIn F t.S) :Sp Tryz.prog 145 #[vP tb 0] (ap [(tb,.lit (Stp.l t mb) 267 (0,0))] [T]) F (λ u H'=>∃ x,H'=ap [(tb,.lit (Stp.l t mb) 267 (0,0))] [x] /\ (MemH mb (dS t M) k x)):=by
 have hp:=hS.pl
 have hn:=hS.nb
 have hr:=hS.room
 refine Sp.run Tryz.func145 rfl (mc hS.blk mn) (A:=[(tb,.lit (Stp.l t mb) 267 (0,0))]) (Ts:=[T]) rfl λ w0=>?_
 refine ae 8 [.own 0] λ _=>aj (pD t t.j tb mb _ (aB 0))<|ae 2 [] λ _=>RN.em (0 <= t.j /\ t.j < t.S.nb) 7 (λ h1=>?_) λ h1=>?_
 ·refine ae 4 [] λ _=>RN.ct [0] [0] (BS t tb mb M (k+7) T _ hM hS.up (by assumption)) ?_
  rintro _ T2 hM3
  refine ae 3 [] λ _=>RN.draw [11] []<|ag [] [0,4,1,5,2,6,3,7,8,9,10] [.own 0,.own 0]<|RD.one 11 (RDO.ct [] [] [0] (ak 3 (IntKind.i64.wrap (t.j+1)) hM3) ?_)
  rintro _ T4 hM5
  refine RD.fin<|ae 1 [] λ _=>RN.ret [] [0] [0] (v:=.tuple #[]) (H':=(ap [(tb,.lit (Stp.l t mb) 267 (0,0))] [T4])) ?_
  refine ⟨T4,rfl,?_⟩
  have e:(dS t M)=((eL t M).set 3 (IntKind.i64.wrap (t.j+1))):=by
   first | (simp only [dS,fI,if_pos h1];done) | (simp only [dS,fI,if_pos h1];rfl) | rfl
  rw [e]
  exact hM5.weak (by omega)
 ·refine ae 11 [.own 0] λ _=>aj (i4 t t.i tb mb _ (aB 0) hS.up)<|ae 2 [] λ _=>RN.em (movP t.S t.i) 27 (λ h6=>?_) λ h6=>?_
  ·have:=movP.has h6
   refine ae 3 [] λ _=>RN.ct [0] [0] (xU t tb mb M (k+4) T _ hM hS.up (by assumption)) ?_
   rintro _ T7 hM8
   refine ae 4 [] λ _=>RN.draw [] []<|ag [] [0,5,1,6,2,7,3,8,4,9,10,11] [.own 0,.own 0]<|RD.fin<|ae 1 [] λ _=>RN.em (IntKind.i64.wrap (t.i+1) < (t.S.nb:Int)) 41 (λ h9=>?_) λ h9=>?_
   ·refine ae 2 [] λ _=>RN.draw [11] []<|ag [] [0,4,1,5,2,6,3,7,8,9,10] [.own 0,.own 0]<|RD.one 11 (RDO.ct [] [] [0] (ak 2 (IntKind.i64.wrap (t.i+1)) hM8) ?_)
    rintro _ T10 hM11
    refine RD.fin<|ae 7 [.own 0] λ _=>RN.ct [] [0] (ak 3 0 hM11) ?_
    rintro _ T12 hM13
    refine ae 8 [.own 0] λ _=>RN.ct [] [0] (ak 5 1024 hM13) ?_
    rintro _ T14 hM15
    refine ae 2 [] λ _=>RN.ret [] [0] [0] (v:=.tuple #[]) (H':=(ap [(tb,.lit (Stp.l t mb) 267 (0,0))] [T14])) ?_
    refine ⟨T14,rfl,?_⟩
    have e:(dS t M)=((((cZ t M).set 2 (IntKind.i64.wrap (t.i+1))).set 3 0).set 5 1024):=by
     first | (simp only [dS,fI,if_neg h1,if_pos h6,if_pos h9];done) | (simp only [dS,fI,if_neg h1,if_pos h6,if_pos h9];rfl) | rfl
    rw [e]
    exact hM15.weak (by omega)
   ·refine ae 6 [] λ _=>RN.ct [0] [0] (bK t 6 0 tb mb (cZ t M) (k+1) T7 _ hM8 hS.up ) ?_
    rintro _ T16 hM17
    refine ae 7 [.own 0] λ _=>RN.ct [] [0] (ak 5 0 hM17) ?_
    rintro _ T18 hM19
    refine ae 1 [] λ _=>RN.ret [] [0] [0] (v:=.tuple #[]) (H':=(ap [(tb,.lit (Stp.l t mb) 267 (0,0))] [T18])) ?_
    refine ⟨T18,rfl,?_⟩
    have e:(dS t M)=((aM t 6 0 (cZ t M)).set 5 0):=by
     first | (simp only [dS,fI,if_neg h1,if_pos h6,if_neg h9];done) | (simp only [dS,fI,if_neg h1,if_pos h6,if_neg h9];rfl) | rfl
    rw [e]
    exact hM19.weak (by omega)
  ·refine ae 5 [] λ _=>RN.draw [] []<|ag [] [0,5,1,6,2,7,3,8,4,9,10,11] [.own 0,.own 0]<|RD.fin<|ae 1 [] λ _=>RN.em (IntKind.i64.wrap (t.i+1) < (t.S.nb:Int)) 41 (λ h20=>?_) λ h20=>?_
   ·refine ae 2 [] λ _=>RN.draw [11] []<|ag [] [0,4,1,5,2,6,3,7,8,9,10] [.own 0,.own 0]<|RD.one 11 (RDO.ct [] [] [0] (ak 2 (IntKind.i64.wrap (t.i+1)) hM) ?_)
    rintro _ T21 hM22
    refine RD.fin<|ae 7 [.own 0] λ _=>RN.ct [] [0] (ak 3 0 hM22) ?_
    rintro _ T23 hM24
    refine ae 8 [.own 0] λ _=>RN.ct [] [0] (ak 5 1024 hM24) ?_
    rintro _ T25 hM26
    refine ae 2 [] λ _=>RN.ret [] [0] [0] (v:=.tuple #[]) (H':=(ap [(tb,.lit (Stp.l t mb) 267 (0,0))] [T25])) ?_
    refine ⟨T25,rfl,?_⟩
    have e:(dS t M)=(((M.set 2 (IntKind.i64.wrap (t.i+1))).set 3 0).set 5 1024):=by
     first | (simp only [dS,fI,if_neg h1,if_neg h6,if_pos h20];done) | (simp only [dS,fI,if_neg h1,if_neg h6,if_pos h20];rfl) | rfl
    rw [e]
    exact hM26.weak (by omega)
   ·refine ae 6 [] λ _=>RN.ct [0] [0] (bK t 6 0 tb mb M (k+5) T _ hM hS.up ) ?_
    rintro _ T27 hM28
    refine ae 7 [.own 0] λ _=>RN.ct [] [0] (ak 5 0 hM28) ?_
    rintro _ T29 hM30
    refine ae 1 [] λ _=>RN.ret [] [0] [0] (v:=.tuple #[]) (H':=(ap [(tb,.lit (Stp.l t mb) 267 (0,0))] [T29])) ?_
    refine ⟨T29,rfl,?_⟩
    have e:(dS t M)=((aM t 6 0 M).set 5 0):=by
     first | (simp only [dS,fI,if_neg h1,if_neg h6,if_neg h20];done) | (simp only [dS,fI,if_neg h1,if_neg h6,if_neg h20];rfl) | rfl
    rw [e]
    exact hM30.weak (by omega)
theorem Ej (i j n r:Int) (q1 q2:Nat) (F:HL) (h1q:(q1,.lit [vI n] 3 (0,0)) ∈ F) (h2q:(q2,.lit [vI r] 3 (0,0)) ∈ F):Sp Tryz.prog 187 #[vI i,vI j,vP q1 0,vP q2 0] [] F (λ u H'=>u=.tuple #[vI ((dh i j n r).1),vI ((dh i j n r).2.1),vI ((dh i j n r).2.2)] /\ H'=[]):=by
 refine Sp.run Tryz.func187 rfl (mc h1q (mc h2q mn)) (A:=[]) (Ts:=[]) rfl λ w0=>?_
 refine ae 18 [.ro 0] λ _=>RN.em (IntKind.i64.wrap (j+1) < n) 9 (λ h1=>?_) λ h1=>?_
 ·refine ae 12 [.ro 1] λ _=>RN.ret [] [] [] (v:=.tuple #[vI r,vI i,vI (IntKind.i64.wrap (j+1))]) (H':=[]) ?_
  refine ⟨?_,rfl⟩
  simp only [dh,if_pos h1]
 ·refine ae 10 [.ro 0] λ _=>RN.em (IntKind.i64.wrap (i+2) < n) 18 (λ h2=>?_) λ h2=>?_
  ·refine ae 13 [.ro 1] λ _=>RN.ret [] [] [] (v:=.tuple #[vI r,vI (IntKind.i64.wrap (i+1)),vI (IntKind.i64.wrap (i+2))]) (H':=[]) ?_
   refine ⟨?_,rfl⟩
   simp only [dh,if_neg h1,if_pos h2]
  ·refine ae 13 [.ro 1] λ _=>RN.ret [] [] [] (v:=.tuple #[vI (IntKind.i64.wrap (r+1)),vI 0,vI 1]) (H':=[]) ?_
   refine ⟨?_,rfl⟩
   simp only [dh,if_neg h1,if_neg h2]
theorem tV (t:Stp)  (tb mb:Nat) (M:MemS) (k:Nat) (T F:HL) (hM:MemH mb M (k+14) T) (hS:SetIn F t.S) :Sp Tryz.prog 144 #[vP tb 0] (ap [(tb,.lit (Stp.l t mb) 267 (0,0))] [T]) F (λ u H'=>∃ x,H'=ap [(tb,.lit (Stp.l t mb) 267 (0,0))] [x] /\ (MemH mb (bS t M) k x)):=by
 have hp:=hS.pl
 have hn:=hS.nb
 have hr:=hS.room
 refine Sp.run Tryz.func144 rfl (mc hS.blk mn) (A:=[(tb,.lit (Stp.l t mb) 267 (0,0))]) (Ts:=[T]) rfl λ w0=>?_
 refine ae 1 [] λ _=>RN.draw [13,14] []<|ag [] [0,6,1,7,2,8,3,9,4,5] [.own 0,.own 0]<|au [] 10 (λ X_=>(az 4 hM (aU 0)))<|jy (σ:=Nat × Nat) (λ ⟨n1,n2⟩=>⟨[(0,vP tb 0),(2,vP (n1+0) 0),(3,vP (n2+0) 0)],[((n2+0),.lit [vI (M.get 4)] 3 (0,0)),((n1+0),.lit [vI (t.S.nb:Int)] 3 (0,0)),(tb,.lit (Stp.l t mb) 267 (0,0))],[T],True,0⟩) ?_ ?_
 ·rintro ⟨n1,n2⟩
  refine ae 3 [] λ _=>RN.draw [] []<|ag [] [0,1,2] [.own 1]<|RD.em ((t.S.nb:Int) < 2) 20 (λ h3=>?_) λ h3=>?_
  ·refine ag [] [3,4,5,6,7,8,9,10] []<|RD.fin<|ae 5 [] λ _=>RN.ct [2] [0] (bK t 5 0 tb mb M (k+11) T _ hM hS.up ) ?_
   rintro _ T4 hM5
   refine ae 8 [.own 0] λ _=>RN.ct [] [0] (ak 5 1024 hM5) ?_
   rintro _ T6 hM7
   refine ae 2 [] λ _=>RN.ret [] [0] [0] (v:=.tuple #[]) (H':=(ap [(tb,.lit (Stp.l t mb) 267 (0,0))] [T6])) ?_
   refine ⟨T6,rfl,?_⟩
   have e:(bS t M)=((aM t 5 0 M).set 5 1024):=by
    first | (simp only [bS,if_pos h3];done) | (simp only [bS,if_pos h3];rfl) | rfl
   rw [e]
   exact hM7.weak (by omega)
  ·refine ag [] [3,4,5,6,7,8,9,10] [.own 0,.own 2]<|RD.fin<|ae 1 [] λ _=>RN.em (M.get 4 >= t.S.rounds) 28 (λ h8=>?_) λ h8=>?_
   ·refine ae 4 [] λ _=>RN.ct [2] [0] (bK t 5 0 tb mb M (k+11) T _ hM hS.up ) ?_
    rintro _ T9 hM10
    refine ae 8 [.own 0] λ _=>RN.ct [] [0] (ak 5 1024 hM10) ?_
    rintro _ T11 hM12
    refine ae 2 [] λ _=>RN.ret [] [0] [0] (v:=.tuple #[]) (H':=(ap [(tb,.lit (Stp.l t mb) 267 (0,0))] [T11])) ?_
    refine ⟨T11,rfl,?_⟩
    have e:(bS t M)=((aM t 5 0 M).set 5 1024):=by
     first | (simp only [bS,if_neg h3,if_pos h8];done) | (simp only [bS,if_neg h3,if_pos h8];rfl) | rfl
    rw [e]
    exact hM12.weak (by omega)
   ·refine ae 6 [] λ _=>RN.ct [2] [0] (yb t tb mb M (k+4) T _ hM hS.up ) ?_
    rintro _ T13 hM14
    refine ae 9 [] λ _=>RN.draw [14] [0,2]<|ag [0,2] [0,1,5,2,6,3,7,4,8] [.own 0,.own 0]<|au [0,2] 9 (λ X_=>(Ej t.i t.j (t.S.nb:Int) (M.get 4) (n1+0) (n2+0) _ (jf 2) (jf 1)))<|ag [0,2] [10,11,12,13] []<|RD.one 14 (RDO.ev [0,2] [.own 1] λ _=>?_)
    refine ag [0,2] [15,16] []<|RD.fin<|ae 2 [] λ _=>RN.draw [5] []<|ag [] [0,4,1,2,3] [.own 1,.own 0]<|RD.one 5 (RDO.ct [] [] [0] (ak 4 ((dh t.i t.j (t.S.nb:Int) (M.get 4)).1) hM14) ?_)
    rintro _ T15 hM16
    refine RD.fin<|ae 8 [.own 0] λ _=>RN.ct [] [0] (ak 2 ((dh t.i t.j (t.S.nb:Int) (M.get 4)).2.1) hM16) ?_
    rintro _ T17 hM18
    refine ae 8 [.own 0] λ _=>RN.ct [] [0] (ak 3 ((dh t.i t.j (t.S.nb:Int) (M.get 4)).2.2) hM18) ?_
    rintro _ T19 hM20
    refine ae 1 [] λ _=>RN.ret [] [0] [0] (v:=.tuple #[]) (H':=(ap [(tb,.lit (Stp.l t mb) 267 (0,0))] [T19])) ?_
    refine ⟨T19,rfl,?_⟩
    have e:(bS t M)=((((dM t M).set 4 ((dh t.i t.j (t.S.nb:Int) (M.get 4)).1)).set 2 ((dh t.i t.j (t.S.nb:Int) (M.get 4)).2.1)).set 3 ((dh t.i t.j (t.S.nb:Int) (M.get 4)).2.2)):=by
     first | (simp only [bS,if_neg h3,if_neg h8];done) | (simp only [bS,if_neg h3,if_neg h8];rfl) | rfl
    rw [e]
    exact hM20.weak (by omega)
 ·intro key21
  refine fH 11 12 ?_ ?_
  ·refine RDO.ev [] [] λ n22=>RD.one 12 (RDO.ev [] [] λ n23=>?_)
   refine RD.one 13 (RDO.ev [] [.own 1] λ _=>?_)
   refine RD.one 14 (RDO.ev [] [.own 0] λ _=>?_)
   exact key21 ⟨n22,n23⟩ [0,1,2] [0]
  ·refine RDO.ev [] [] λ n24=>RD.one 11 (RDO.ev [] [] λ n25=>?_)
   refine RD.one 13 (RDO.ev [] [.own 0] λ _=>?_)
   refine RD.one 14 (RDO.ev [] [.own 1] λ _=>?_)
   exact key21 ⟨n25,n24⟩ [1,0,2] [0]
theorem Ek (t:Stp)  (tb mb:Nat) (M:MemS) (k:Nat) (T F:HL) (hM:MemH mb M (k+14) T) (hS:SetIn F t.S) :Sp Tryz.prog 147 #[vP tb 0] (ap [(tb,.lit (Stp.l t mb) 267 (0,0))] [T]) F (λ u H'=>∃ x,H'=ap [(tb,.lit [.iface 114 (vP mb 0),vI t.S.players,vS t.S.bb (t.S.bo * 9) t.S.nb t.S.bc,vI t.S.box.x0,vI t.S.box.y0,vI t.S.box.x1,vI t.S.box.y1,.slice t.S.rA t.S.rn t.S.rc,.slice t.S.dA t.S.dn t.S.dc,vI t.S.fog,vI t.S.g.x,vI t.S.g.y,vI t.S.push,vI t.S.drag,vI t.S.rest,vI t.S.rounds,vI t.S.fuel,.slice t.cA t.cn t.cc,vI t.e0,vI t.e1,vI t.e2,vI t.version,vS t.ib t.iR t.ni t.ic,vI t.i,vI t.j,.bool (fw t),vI t.f0,vI t.f1,vI t.f2,vI t.f3,.bool t.emitted] 267 (0,0))] [x] /\ (MemH mb (dw t M) k x)):=by
 have hp:=hS.pl
 have hn:=hS.nb
 have hr:=hS.room
 refine Sp.run Tryz.func147 rfl (mc hS.blk mn) (A:=[(tb,.lit (Stp.l t mb) 267 (0,0))]) (Ts:=[T]) rfl λ w0=>?_
 refine ae 2 [] λ _=>RN.draw [] []<|ag [] [0,4,1,5,2,6,3,7] (ow 0 17)<|au [] 8 (λ X_=>(cI t.S t.i _ hS.toSetN)) ?_
 have hb1:=cH hS.toSetN t.i
 refine ag [] [9] []<|RD.fin<|ae 7 [] λ _=>RN.em (af t.S t.i >= 0) 15 (λ h2=>?_) λ h2=>?_
 ·refine ai 15 [.own 0,.nw] [bg ((af t.S t.i)+2)] λ _=>aj (az ((af t.S t.i)+2) hM (av 0))<|ae 2 [] λ _=>RN.em (M.get ((af t.S t.i)+2)=0) 24 (λ h3=>?_) λ h3=>?_
  ·refine ai 6 [.own 0,.nw] [bg ((af t.S t.i)+3)] λ _=>aj (az ((af t.S t.i)+3) hM (av 0))<|ae 4 [] λ _=>RN.em (M.get ((af t.S t.i)+3)=0) 33 (λ h4=>?_) λ h4=>?_
   ·refine ai 8 [.own 0,.nw] [bg ((af t.S t.i)+7)] λ _=>aj (az ((af t.S t.i)+7) hM (av 0))<|ai 13 [.own 0,.nw] [bg ((af t.S t.i)+7)] λ _=>RN.ct [] [0] (ak ((af t.S t.i)+7) (if 1000 < IntKind.i64.wrap ((M.get ((af t.S t.i)+7))+1) then 1000 else IntKind.i64.wrap ((M.get ((af t.S t.i)+7))+1)) hM) ?_
    rintro _ T5 hM6
    refine ae 4 [] λ _=>RN.draw [] []<|ag [] [0,5,1,6,2,7,3,8,4,9,10,11] [.own 0,.own 0]<|RD.fin<|ae 1 [] λ _=>RN.em (IntKind.i64.wrap (t.i+1) < (t.S.nb:Int)) 62 (λ h7=>?_) λ h7=>?_
    ·refine ae 2 [] λ _=>RN.draw [11] []<|ag [] [0,4,1,5,2,6,3,7,8,9,10] [.own 0,.own 0]<|RD.one 11 (RDO.ct [] [] [0] (ak 2 (IntKind.i64.wrap (t.i+1)) hM6) ?_)
     rintro _ T8 hM9
     refine RD.fin<|ae 1 [] λ _=>RN.ret [] [0] [0] (v:=.tuple #[]) (H':=(ap [(tb,.lit (Stp.l t mb) 267 (0,0))] [T8])) ?_
     refine ⟨T8,by simp only [fw,Stp.l,if_pos h2,if_pos h3,if_pos h4,if_pos h7],?_⟩
     have e:(dw t M)=((M.set ((af t.S t.i)+7) (if 1000 < IntKind.i64.wrap ((M.get ((af t.S t.i)+7))+1) then 1000 else IntKind.i64.wrap ((M.get ((af t.S t.i)+7))+1))).set 2 (IntKind.i64.wrap (t.i+1))):=by
      simp only [dw,fP,gK,if_pos h2,if_pos h3,if_pos h4,if_pos h7]
     rw [e]
     exact hM9.weak (by omega)
    ·refine ae 12 [.own 0] λ _=>RN.draw [12] []<|ag [] [0,4,1,5,2,6,3,7,10,11] [.own 0,.own 0]<|au [] 8 (λ X_=>(az 0 hM6 (aU 0)))<|ag [] [9] []<|RD.one 12 (RDO.ct [] [] [0] (ak 0 (IntKind.i64.wrap (((M.set ((af t.S t.i)+7) (if 1000 < IntKind.i64.wrap ((M.get ((af t.S t.i)+7))+1) then 1000 else IntKind.i64.wrap ((M.get ((af t.S t.i)+7))+1))).get 0)+1)) hM6) ?_)
     rintro _ T10 hM11
     refine RD.fin<|ae 7 [] λ _=>RN.loop (σ:=Nat × HL) (λ ⟨n,T_⟩=>⟨[(0,vP tb 0),(4,vI ((n+1:Nat):Int))],[(tb,.lit [.iface 114 (vP mb 0),vI t.S.players,vS t.S.bb (t.S.bo * 9) t.S.nb t.S.bc,vI t.S.box.x0,vI t.S.box.y0,vI t.S.box.x1,vI t.S.box.y1,.slice t.S.rA t.S.rn t.S.rc,.slice t.S.dA t.S.dn t.S.dc,vI t.S.fog,vI t.S.g.x,vI t.S.g.y,vI t.S.push,vI t.S.drag,vI t.S.rest,vI t.S.rounds,vI t.S.fuel,.slice t.cA t.cn t.cc,vI t.e0,vI t.e1,vI t.e2,vI t.version,vS t.ib t.iR t.ni t.ic,vI t.i,vI t.j,.bool true,vI t.f0,vI t.f1,vI t.f2,vI t.f3,.bool t.emitted] 267 (0,0))],[T_],n <= 10 /\ MemH mb (cF ((M.set ((af t.S t.i)+7) (if 1000 < IntKind.i64.wrap ((M.get ((af t.S t.i)+7))+1) then 1000 else IntKind.i64.wrap ((M.get ((af t.S t.i)+7))+1))).set 0 (IntKind.i64.wrap (((M.set ((af t.S t.i)+7) (if 1000 < IntKind.i64.wrap ((M.get ((af t.S t.i)+7))+1) then 1000 else IntKind.i64.wrap ((M.get ((af t.S t.i)+7))+1))).get 0)+1))) n) (k+10 - n) T_,10 - n⟩) (0,T10) [0] [0] (⟨by omega,hM11.weak (by omega)⟩) ?_
     rintro ⟨n,T_⟩ ⟨hn_,hM_⟩ mt13
     refine ae 7 [] λ _=>RN.em (((n+1:Nat):Int) <= 10) 92 (λ h14=>?_) λ h14=>?_
     ·obtain ⟨e_,he_⟩:∃ e,k+10 - n=e+1:=⟨k+9 - n,by omega⟩
      have hM_2:MemH mb (cF ((M.set ((af t.S t.i)+7) (if 1000 < IntKind.i64.wrap ((M.get ((af t.S t.i)+7))+1) then 1000 else IntKind.i64.wrap ((M.get ((af t.S t.i)+7))+1))).set 0 (IntKind.i64.wrap (((M.set ((af t.S t.i)+7) (if 1000 < IntKind.i64.wrap ((M.get ((af t.S t.i)+7))+1) then 1000 else IntKind.i64.wrap ((M.get ((af t.S t.i)+7))+1))).get 0)+1))) n) (e_+1) T_:=he_ ▸ hM_
      refine ae 11 [.own 0] λ _=>RN.ct [] [0] (ak ((n+1:Nat):Int) 0 hM_2) ?_
      rintro _ T15 hM16
      refine ai 8 [.nw] [bg (((n+1:Nat):Int)+1)] λ _=>?_
      refine mt13 (n+1,T15) [0] [0] ?_
      try dsimp only
      refine ⟨⟨by omega,hM16.cast (by rw [cF]) (by omega)⟩,by omega⟩
     ·refine ae 5 [] λ _=>RN.ret [] [0] [0] (v:=.tuple #[]) (H':=(ap [(tb,.lit [.iface 114 (vP mb 0),vI t.S.players,vS t.S.bb (t.S.bo * 9) t.S.nb t.S.bc,vI t.S.box.x0,vI t.S.box.y0,vI t.S.box.x1,vI t.S.box.y1,.slice t.S.rA t.S.rn t.S.rc,.slice t.S.dA t.S.dn t.S.dc,vI t.S.fog,vI t.S.g.x,vI t.S.g.y,vI t.S.push,vI t.S.drag,vI t.S.rest,vI t.S.rounds,vI t.S.fuel,.slice t.cA t.cn t.cc,vI t.e0,vI t.e1,vI t.e2,vI t.version,vS t.ib t.iR t.ni t.ic,vI t.i,vI t.j,.bool true,vI t.f0,vI t.f1,vI t.f2,vI t.f3,.bool t.emitted] 267 (0,0))] [T_])) ?_
      refine ⟨T_,by simp only [fw,Stp.l,if_pos h2,if_pos h3,if_pos h4,if_neg h7,if_neg h14],?_⟩
      have en:n=10:=by omega
      have e:(dw t M)=(cF ((M.set ((af t.S t.i)+7) (if 1000 < IntKind.i64.wrap ((M.get ((af t.S t.i)+7))+1) then 1000 else IntKind.i64.wrap ((M.get ((af t.S t.i)+7))+1))).set 0 (IntKind.i64.wrap (((M.set ((af t.S t.i)+7) (if 1000 < IntKind.i64.wrap ((M.get ((af t.S t.i)+7))+1) then 1000 else IntKind.i64.wrap ((M.get ((af t.S t.i)+7))+1))).get 0)+1))) n):=by
       rw [en]
       simp only [dw,fP,gK,if_pos h2,if_pos h3,if_pos h4,if_neg h7,if_neg h14]
      rw [e]
      exact hM_.weak (by omega)
   ·refine ai 11 [.own 0,.nw] [bg ((af t.S t.i)+7)] λ _=>RN.ct [] [0] (ak ((af t.S t.i)+7) 0 hM) ?_
    rintro _ T17 hM18
    refine ae 4 [] λ _=>RN.draw [] []<|ag [] [0,5,1,6,2,7,3,8,4,9,10,11] [.own 0,.own 0]<|RD.fin<|ae 1 [] λ _=>RN.em (IntKind.i64.wrap (t.i+1) < (t.S.nb:Int)) 62 (λ h19=>?_) λ h19=>?_
    ·refine ae 2 [] λ _=>RN.draw [11] []<|ag [] [0,4,1,5,2,6,3,7,8,9,10] [.own 0,.own 0]<|RD.one 11 (RDO.ct [] [] [0] (ak 2 (IntKind.i64.wrap (t.i+1)) hM18) ?_)
     rintro _ T20 hM21
     refine RD.fin<|ae 1 [] λ _=>RN.ret [] [0] [0] (v:=.tuple #[]) (H':=(ap [(tb,.lit (Stp.l t mb) 267 (0,0))] [T20])) ?_
     refine ⟨T20,by simp only [fw,Stp.l,if_pos h2,if_pos h3,if_neg h4,if_pos h19],?_⟩
     have e:(dw t M)=((M.set ((af t.S t.i)+7) 0).set 2 (IntKind.i64.wrap (t.i+1))):=by
      simp only [dw,fP,gK,if_pos h2,if_pos h3,if_neg h4,if_pos h19]
     rw [e]
     exact hM21.weak (by omega)
    ·refine ae 12 [.own 0] λ _=>RN.draw [12] []<|ag [] [0,4,1,5,2,6,3,7,10,11] [.own 0,.own 0]<|au [] 8 (λ X_=>(az 0 hM18 (aU 0)))<|ag [] [9] []<|RD.one 12 (RDO.ct [] [] [0] (ak 0 (IntKind.i64.wrap (((M.set ((af t.S t.i)+7) 0).get 0)+1)) hM18) ?_)
     rintro _ T22 hM23
     refine RD.fin<|ae 7 [] λ _=>RN.loop (σ:=Nat × HL) (λ ⟨n,T_⟩=>⟨[(0,vP tb 0),(4,vI ((n+1:Nat):Int))],[(tb,.lit [.iface 114 (vP mb 0),vI t.S.players,vS t.S.bb (t.S.bo * 9) t.S.nb t.S.bc,vI t.S.box.x0,vI t.S.box.y0,vI t.S.box.x1,vI t.S.box.y1,.slice t.S.rA t.S.rn t.S.rc,.slice t.S.dA t.S.dn t.S.dc,vI t.S.fog,vI t.S.g.x,vI t.S.g.y,vI t.S.push,vI t.S.drag,vI t.S.rest,vI t.S.rounds,vI t.S.fuel,.slice t.cA t.cn t.cc,vI t.e0,vI t.e1,vI t.e2,vI t.version,vS t.ib t.iR t.ni t.ic,vI t.i,vI t.j,.bool true,vI t.f0,vI t.f1,vI t.f2,vI t.f3,.bool t.emitted] 267 (0,0))],[T_],n <= 10 /\ MemH mb (cF ((M.set ((af t.S t.i)+7) 0).set 0 (IntKind.i64.wrap (((M.set ((af t.S t.i)+7) 0).get 0)+1))) n) (k+10 - n) T_,10 - n⟩) (0,T22) [0] [0] (⟨by omega,hM23.weak (by omega)⟩) ?_
     rintro ⟨n,T_⟩ ⟨hn_,hM_⟩ mt25
     refine ae 7 [] λ _=>RN.em (((n+1:Nat):Int) <= 10) 92 (λ h26=>?_) λ h26=>?_
     ·obtain ⟨e_,he_⟩:∃ e,k+10 - n=e+1:=⟨k+9 - n,by omega⟩
      have hM_2:MemH mb (cF ((M.set ((af t.S t.i)+7) 0).set 0 (IntKind.i64.wrap (((M.set ((af t.S t.i)+7) 0).get 0)+1))) n) (e_+1) T_:=he_ ▸ hM_
      refine ae 11 [.own 0] λ _=>RN.ct [] [0] (ak ((n+1:Nat):Int) 0 hM_2) ?_
      rintro _ T27 hM28
      refine ai 8 [.nw] [bg (((n+1:Nat):Int)+1)] λ _=>?_
      refine mt25 (n+1,T27) [0] [0] ?_
      try dsimp only
      refine ⟨⟨by omega,hM28.cast (by rw [cF]) (by omega)⟩,by omega⟩
     ·refine ae 5 [] λ _=>RN.ret [] [0] [0] (v:=.tuple #[]) (H':=(ap [(tb,.lit [.iface 114 (vP mb 0),vI t.S.players,vS t.S.bb (t.S.bo * 9) t.S.nb t.S.bc,vI t.S.box.x0,vI t.S.box.y0,vI t.S.box.x1,vI t.S.box.y1,.slice t.S.rA t.S.rn t.S.rc,.slice t.S.dA t.S.dn t.S.dc,vI t.S.fog,vI t.S.g.x,vI t.S.g.y,vI t.S.push,vI t.S.drag,vI t.S.rest,vI t.S.rounds,vI t.S.fuel,.slice t.cA t.cn t.cc,vI t.e0,vI t.e1,vI t.e2,vI t.version,vS t.ib t.iR t.ni t.ic,vI t.i,vI t.j,.bool true,vI t.f0,vI t.f1,vI t.f2,vI t.f3,.bool t.emitted] 267 (0,0))] [T_])) ?_
      refine ⟨T_,by simp only [fw,Stp.l,if_pos h2,if_pos h3,if_neg h4,if_neg h19,if_neg h26],?_⟩
      have en:n=10:=by omega
      have e:(dw t M)=(cF ((M.set ((af t.S t.i)+7) 0).set 0 (IntKind.i64.wrap (((M.set ((af t.S t.i)+7) 0).get 0)+1))) n):=by
       rw [en]
       simp only [dw,fP,gK,if_pos h2,if_pos h3,if_neg h4,if_neg h19,if_neg h26]
      rw [e]
      exact hM_.weak (by omega)
  ·refine ai 22 [.own 0,.nw] [bg ((af t.S t.i)+7)] λ _=>RN.ct [] [0] (ak ((af t.S t.i)+7) 0 hM) ?_
   rintro _ T29 hM30
   refine ae 4 [] λ _=>RN.draw [] []<|ag [] [0,5,1,6,2,7,3,8,4,9,10,11] [.own 0,.own 0]<|RD.fin<|ae 1 [] λ _=>RN.em (IntKind.i64.wrap (t.i+1) < (t.S.nb:Int)) 62 (λ h31=>?_) λ h31=>?_
   ·refine ae 2 [] λ _=>RN.draw [11] []<|ag [] [0,4,1,5,2,6,3,7,8,9,10] [.own 0,.own 0]<|RD.one 11 (RDO.ct [] [] [0] (ak 2 (IntKind.i64.wrap (t.i+1)) hM30) ?_)
    rintro _ T32 hM33
    refine RD.fin<|ae 1 [] λ _=>RN.ret [] [0] [0] (v:=.tuple #[]) (H':=(ap [(tb,.lit (Stp.l t mb) 267 (0,0))] [T32])) ?_
    refine ⟨T32,by simp only [fw,Stp.l,if_pos h2,if_neg h3,if_pos h31],?_⟩
    have e:(dw t M)=((M.set ((af t.S t.i)+7) 0).set 2 (IntKind.i64.wrap (t.i+1))):=by
     simp only [dw,fP,gK,if_pos h2,if_neg h3,if_pos h31]
    rw [e]
    exact hM33.weak (by omega)
   ·refine ae 12 [.own 0] λ _=>RN.draw [12] []<|ag [] [0,4,1,5,2,6,3,7,10,11] [.own 0,.own 0]<|au [] 8 (λ X_=>(az 0 hM30 (aU 0)))<|ag [] [9] []<|RD.one 12 (RDO.ct [] [] [0] (ak 0 (IntKind.i64.wrap (((M.set ((af t.S t.i)+7) 0).get 0)+1)) hM30) ?_)
    rintro _ T34 hM35
    refine RD.fin<|ae 7 [] λ _=>RN.loop (σ:=Nat × HL) (λ ⟨n,T_⟩=>⟨[(0,vP tb 0),(4,vI ((n+1:Nat):Int))],[(tb,.lit [.iface 114 (vP mb 0),vI t.S.players,vS t.S.bb (t.S.bo * 9) t.S.nb t.S.bc,vI t.S.box.x0,vI t.S.box.y0,vI t.S.box.x1,vI t.S.box.y1,.slice t.S.rA t.S.rn t.S.rc,.slice t.S.dA t.S.dn t.S.dc,vI t.S.fog,vI t.S.g.x,vI t.S.g.y,vI t.S.push,vI t.S.drag,vI t.S.rest,vI t.S.rounds,vI t.S.fuel,.slice t.cA t.cn t.cc,vI t.e0,vI t.e1,vI t.e2,vI t.version,vS t.ib t.iR t.ni t.ic,vI t.i,vI t.j,.bool true,vI t.f0,vI t.f1,vI t.f2,vI t.f3,.bool t.emitted] 267 (0,0))],[T_],n <= 10 /\ MemH mb (cF ((M.set ((af t.S t.i)+7) 0).set 0 (IntKind.i64.wrap (((M.set ((af t.S t.i)+7) 0).get 0)+1))) n) (k+10 - n) T_,10 - n⟩) (0,T34) [0] [0] (⟨by omega,hM35.weak (by omega)⟩) ?_
    rintro ⟨n,T_⟩ ⟨hn_,hM_⟩ mt37
    refine ae 7 [] λ _=>RN.em (((n+1:Nat):Int) <= 10) 92 (λ h38=>?_) λ h38=>?_
    ·obtain ⟨e_,he_⟩:∃ e,k+10 - n=e+1:=⟨k+9 - n,by omega⟩
     have hM_2:MemH mb (cF ((M.set ((af t.S t.i)+7) 0).set 0 (IntKind.i64.wrap (((M.set ((af t.S t.i)+7) 0).get 0)+1))) n) (e_+1) T_:=he_ ▸ hM_
     refine ae 11 [.own 0] λ _=>RN.ct [] [0] (ak ((n+1:Nat):Int) 0 hM_2) ?_
     rintro _ T39 hM40
     refine ai 8 [.nw] [bg (((n+1:Nat):Int)+1)] λ _=>?_
     refine mt37 (n+1,T39) [0] [0] ?_
     try dsimp only
     refine ⟨⟨by omega,hM40.cast (by rw [cF]) (by omega)⟩,by omega⟩
    ·refine ae 5 [] λ _=>RN.ret [] [0] [0] (v:=.tuple #[]) (H':=(ap [(tb,.lit [.iface 114 (vP mb 0),vI t.S.players,vS t.S.bb (t.S.bo * 9) t.S.nb t.S.bc,vI t.S.box.x0,vI t.S.box.y0,vI t.S.box.x1,vI t.S.box.y1,.slice t.S.rA t.S.rn t.S.rc,.slice t.S.dA t.S.dn t.S.dc,vI t.S.fog,vI t.S.g.x,vI t.S.g.y,vI t.S.push,vI t.S.drag,vI t.S.rest,vI t.S.rounds,vI t.S.fuel,.slice t.cA t.cn t.cc,vI t.e0,vI t.e1,vI t.e2,vI t.version,vS t.ib t.iR t.ni t.ic,vI t.i,vI t.j,.bool true,vI t.f0,vI t.f1,vI t.f2,vI t.f3,.bool t.emitted] 267 (0,0))] [T_])) ?_
     refine ⟨T_,by simp only [fw,Stp.l,if_pos h2,if_neg h3,if_neg h31,if_neg h38],?_⟩
     have en:n=10:=by omega
     have e:(dw t M)=(cF ((M.set ((af t.S t.i)+7) 0).set 0 (IntKind.i64.wrap (((M.set ((af t.S t.i)+7) 0).get 0)+1))) n):=by
      rw [en]
      simp only [dw,fP,gK,if_pos h2,if_neg h3,if_neg h31,if_neg h38]
     rw [e]
     exact hM_.weak (by omega)
 ·refine ae 5 [] λ _=>RN.draw [] []<|ag [] [0,5,1,6,2,7,3,8,4,9,10,11] [.own 0,.own 0]<|RD.fin<|ae 1 [] λ _=>RN.em (IntKind.i64.wrap (t.i+1) < (t.S.nb:Int)) 62 (λ h41=>?_) λ h41=>?_
  ·refine ae 2 [] λ _=>RN.draw [11] []<|ag [] [0,4,1,5,2,6,3,7,8,9,10] [.own 0,.own 0]<|RD.one 11 (RDO.ct [] [] [0] (ak 2 (IntKind.i64.wrap (t.i+1)) hM) ?_)
   rintro _ T42 hM43
   refine RD.fin<|ae 1 [] λ _=>RN.ret [] [0] [0] (v:=.tuple #[]) (H':=(ap [(tb,.lit (Stp.l t mb) 267 (0,0))] [T42])) ?_
   refine ⟨T42,by simp only [fw,Stp.l,if_neg h2,if_pos h41],?_⟩
   have e:(dw t M)=(M.set 2 (IntKind.i64.wrap (t.i+1))):=by
    simp only [dw,fP,gK,if_neg h2,if_pos h41]
   rw [e]
   exact hM43.weak (by omega)
  ·refine ae 12 [.own 0] λ _=>RN.draw [12] []<|ag [] [0,4,1,5,2,6,3,7,10,11] [.own 0,.own 0]<|au [] 8 (λ X_=>(az 0 hM (aU 0)))<|ag [] [9] []<|RD.one 12 (RDO.ct [] [] [0] (ak 0 (IntKind.i64.wrap ((M.get 0)+1)) hM) ?_)
   rintro _ T44 hM45
   refine RD.fin<|ae 7 [] λ _=>RN.loop (σ:=Nat × HL) (λ ⟨n,T_⟩=>⟨[(0,vP tb 0),(4,vI ((n+1:Nat):Int))],[(tb,.lit [.iface 114 (vP mb 0),vI t.S.players,vS t.S.bb (t.S.bo * 9) t.S.nb t.S.bc,vI t.S.box.x0,vI t.S.box.y0,vI t.S.box.x1,vI t.S.box.y1,.slice t.S.rA t.S.rn t.S.rc,.slice t.S.dA t.S.dn t.S.dc,vI t.S.fog,vI t.S.g.x,vI t.S.g.y,vI t.S.push,vI t.S.drag,vI t.S.rest,vI t.S.rounds,vI t.S.fuel,.slice t.cA t.cn t.cc,vI t.e0,vI t.e1,vI t.e2,vI t.version,vS t.ib t.iR t.ni t.ic,vI t.i,vI t.j,.bool true,vI t.f0,vI t.f1,vI t.f2,vI t.f3,.bool t.emitted] 267 (0,0))],[T_],n <= 10 /\ MemH mb (cF (M.set 0 (IntKind.i64.wrap ((M.get 0)+1))) n) (k+10 - n) T_,10 - n⟩) (0,T44) [0] [0] (⟨by omega,hM45.weak (by omega)⟩) ?_
   rintro ⟨n,T_⟩ ⟨hn_,hM_⟩ mt47
   refine ae 7 [] λ _=>RN.em (((n+1:Nat):Int) <= 10) 92 (λ h48=>?_) λ h48=>?_
   ·obtain ⟨e_,he_⟩:∃ e,k+10 - n=e+1:=⟨k+9 - n,by omega⟩
    have hM_2:MemH mb (cF (M.set 0 (IntKind.i64.wrap ((M.get 0)+1))) n) (e_+1) T_:=he_ ▸ hM_
    refine ae 11 [.own 0] λ _=>RN.ct [] [0] (ak ((n+1:Nat):Int) 0 hM_2) ?_
    rintro _ T49 hM50
    refine ai 8 [.nw] [bg (((n+1:Nat):Int)+1)] λ _=>?_
    refine mt47 (n+1,T49) [0] [0] ?_
    try dsimp only
    refine ⟨⟨by omega,hM50.cast (by rw [cF]) (by omega)⟩,by omega⟩
   ·refine ae 5 [] λ _=>RN.ret [] [0] [0] (v:=.tuple #[]) (H':=(ap [(tb,.lit [.iface 114 (vP mb 0),vI t.S.players,vS t.S.bb (t.S.bo * 9) t.S.nb t.S.bc,vI t.S.box.x0,vI t.S.box.y0,vI t.S.box.x1,vI t.S.box.y1,.slice t.S.rA t.S.rn t.S.rc,.slice t.S.dA t.S.dn t.S.dc,vI t.S.fog,vI t.S.g.x,vI t.S.g.y,vI t.S.push,vI t.S.drag,vI t.S.rest,vI t.S.rounds,vI t.S.fuel,.slice t.cA t.cn t.cc,vI t.e0,vI t.e1,vI t.e2,vI t.version,vS t.ib t.iR t.ni t.ic,vI t.i,vI t.j,.bool true,vI t.f0,vI t.f1,vI t.f2,vI t.f3,.bool t.emitted] 267 (0,0))] [T_])) ?_
    refine ⟨T_,by simp only [fw,Stp.l,if_neg h2,if_neg h41,if_neg h48],?_⟩
    have en:n=10:=by omega
    have e:(dw t M)=(cF (M.set 0 (IntKind.i64.wrap ((M.get 0)+1))) n):=by
     rw [en]
     simp only [dw,fP,gK,if_neg h2,if_neg h41,if_neg h48]
    rw [e]
    exact hM_.weak (by omega)
end Go.Proofs.YtobflkidpfkcaaaGreatDoor
