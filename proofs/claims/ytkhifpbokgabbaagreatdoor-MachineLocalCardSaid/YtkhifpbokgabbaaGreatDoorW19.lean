import Derived.Test.YtkhifpbokgabbaaGreatDoorW18
import Derived.Test.YtkhifpbokgabbaaGreatDoorW10
set_option maxHeartbeats 4000000
set_option maxRecDepth 100000
set_option linter.unusedSimpArgs false
set_option linter.unusedVariables false
namespace Go.Proofs.YtkhifpbokgabbaaGreatDoor
open Go.RowKit
variable {K:Kd} {D:Int -> Prop}
def colT (t:Stp) (M:MemS):Con × Bool:=collideS (t.S.body t.i.toNat).sh ⟨(motM t.S M t.i).px,(motM t.S M t.i).py⟩ (t.S.body t.j.toNat).sh ⟨(motM t.S M t.j).px,(motM t.S M t.j).py⟩
def resT (t:Stp) (M:MemS):Mot × Mot:=resolveS (motM t.S M t.i) (motM t.S M t.j) (colT t M).1 t.S.rest
def touchSet (t:Stp) (M:MemS):MemS:=((setMotM t t.j (resT t M).2 (setMotM t t.i (resT t M).1 M)).set (bodyAt t.S t.i+6) (w64 (t.j+1))).set (bodyAt t.S t.j+6) (w64 (t.i+1))
def touchF (t:Stp) (M:MemS):MemS:=if 0 <= t.i /\ t.i < t.S.nb then if 0 <= t.j /\ t.j < t.S.nb then if (colT t M).2=true then touchSet t M else M else M else M
def earT (t:Stp) (M:MemS):Int:=earlS (t.S.body t.i.toNat).sh ⟨(motM t.S M t.i).px,(motM t.S M t.i).py⟩ ⟨(motM t.S M t.i).vx,(motM t.S M t.i).vy⟩ (t.S.body t.j.toNat).sh ⟨(motM t.S M t.j).px,(motM t.S M t.j).py⟩ ⟨0,0⟩
def testF (t:Stp) (M:MemS):MemS:=if t.i=t.j then M else if movP t.S t.i then (if earT t M < M.get 5 then M.set 5 (earT t M) else M) else M
def moveA (t:Stp) (M:MemS):MemS:=if w64 (t.i+1) < t.S.nb then ((M.set 2 (w64 (t.i+1))).set 3 0).set 5 1024 else (beginM t 6 0 M).set 5 0
def moveF (t:Stp) (M:MemS):MemS:=if 0 <= t.j /\ t.j < t.S.nb then (testF t M).set 3 (w64 (t.j+1)) else moveA t (if movP t.S t.i then travelM t M else M)
def nextI (i j n r:Int):Int × Int × Int:=if w64 (j+1) < n then (r,i,w64 (j+1)) else if w64 (i+2) < n then (r,w64 (i+1),w64 (i+2)) else (w64 (r+1),0,1)
def contactF (t:Stp) (M:MemS):MemS:=if (t.S.nb:Int) < 2 then (beginM t 5 0 M).set 5 1024 else if M.get 4 >= t.S.rounds then (beginM t 5 0 M).set 5 1024 else (((touchF t M).set 4 (nextI t.i t.j t.S.nb (M.get 4)).1).set 2 (nextI t.i t.j t.S.nb (M.get 4)).2.1).set 3 (nextI t.i t.j t.S.nb (M.get 4)).2.2
theorem touch_full (t:Stp)  (tb mb:Nat) (M:MemS) (k:Nat) (T F:HL) (hM:MemK K D mb M (k+10) T) (hS:SetIn F t.S)  (hbi:DBd D t.S t.i) (hbj:DBd D t.S t.j) :Sp Tryz.prog 53 #[vP tb 0] (ap [(tb,.lit (Stp.l K t mb) 94 (0,0))] [T]) F (λ u H'=>∃ x,H'=ap [(tb,.lit (Stp.l K t mb) 94 (0,0))] [x] /\ (MemK K D mb (touchF t M) k x)):=by
 have hp:=hS.pl
 have hn:=hS.nb
 have hr:=hS.room
 refine Sp.run Tryz.func53 rfl (mc hS.blk mn) (A:=[(tb,.lit (Stp.l K t mb) 94 (0,0))]) (Ts:=[T]) rfl λ w0=>?_
 refine RN.go 8 [.own 0] λ _=>RN.cp (has_any (K:=K) t t.i tb mb _ (in_ap 0))<|RN.go 2 [] λ _=>RN.en (0 <= t.i /\ t.i < t.S.nb) 13 (λ h1=>?_) λ h1=>?_
 ·refine RN.go 5 [.own 0] λ _=>RN.cp (has_any (K:=K) t t.j tb mb _ (in_ap 0))<|RN.go 4 [] λ _=>RN.en (0 <= t.j /\ t.j < t.S.nb) 21 (λ h2=>?_) λ h2=>?_
  ·refine RN.go 4 [] λ _=>RN.draw [14,15] []<|RD.go [] [0,1,6,7,2,8,3,9,4,10] [.own 0,.own 0]<|RD.cp [] 5 (λ X_=>(motion_any t t.i tb mb M _ T _ (in_apX 0) hS.up.up hM (sub_apX 0) h1 (hbi (bodyAt_nn hS.toSetN h1))))<|RD.cp [] 11 (λ X_=>(motion_any t t.j tb mb M _ T _ (in_apX 0) hS.up.up hM (sub_apX 0) h2 (hbj (bodyAt_nn hS.toSetN h2))))<|RD.haveK (σ:=Nat × Nat) (λ ⟨n3,n4⟩=>⟨[(0,vP tb 0),(2,vP (n3+0) 0),(3,vP (n4+0) 0)],[((n4+0),.lit [vI ((motM t.S M t.j).px),vI ((motM t.S M t.j).py),vI ((motM t.S M t.j).vx),vI ((motM t.S M t.j).vy),vI ((motM t.S M t.j).inv)] 62 (0,0)),((n3+0),.lit [vI ((motM t.S M t.i).px),vI ((motM t.S M t.i).py),vI ((motM t.S M t.i).vx),vI ((motM t.S M t.i).vy),vI ((motM t.S M t.i).inv)] 62 (0,0)),(tb,.lit (Stp.l K t mb) 94 (0,0))],[T],True,0⟩) ?_ ?_
   ·rintro ⟨n3,n4⟩
    refine RN.go 2 [] λ _=>RN.draw [33] [0,1,2]<|RD.goP [0,1,2] [0,5,12,14,19,26,1,6,13,15,20,27,2,7,16,21,3,8,17,22,4,18,9,23,10,24,11,25] [.own 1,.own 1,.own 0,.own 0,.own 2,.own 2,.own 2,.own 2,.ix ((t.i).toNat),.ix ((t.j).toNat),.rorow 0 (t.S.bo+((t.i).toNat)) 0,.rorow 0 (t.S.bo+((t.i).toNat)) 1,.rorow 0 (t.S.bo+((t.j).toNat)) 0,.rorow 0 (t.S.bo+((t.j).toNat)) 1] [((t.S.bo * 9+((t.j).toNat) * 9)+1)=(t.S.bo+((t.j).toNat)) * 9+1 /\ (t.S.bo+((t.j).toNat)) < t.S.bR,(t.S.bo * 9+((t.j).toNat) * 9)=(t.S.bo+((t.j).toNat)) * 9+0 /\ (t.S.bo+((t.j).toNat)) < t.S.bR,((t.S.bo * 9+((t.i).toNat) * 9)+1)=(t.S.bo+((t.i).toNat)) * 9+1 /\ (t.S.bo+((t.i).toNat)) < t.S.bR,(t.S.bo * 9+((t.i).toNat) * 9)=(t.S.bo+((t.i).toNat)) * 9+0 /\ (t.S.bo+((t.i).toNat)) < t.S.bR,t.j=(((t.j).toNat:Nat):Int) /\ (t.j).toNat < t.S.nb,t.i=(((t.i).toNat:Nat):Int) /\ (t.i).toNat < t.S.nb]<|RD.cp [0,1,2] 28 (λ X_=>(collide_any (t.S.bods.getD (t.S.bo+((t.i).toNat)) dB).sh (⟨(motM t.S M t.i).px,(motM t.S M t.i).py⟩:V2) (t.S.bods.getD (t.S.bo+((t.j).toNat)) dB).sh (⟨(motM t.S M t.j).px,(motM t.S M t.j).py⟩:V2) _ ((hS.shp ((t.i).toNat) (by omega)).up.up) ((hS.shp ((t.j).toNat) (by omega)).up.up)))<|RD.go [0,1,2] [29,30,31] []<|RD.one 32 (RDO.ev [] [] λ n6=>?_)
    refine RD.one 33 (RDO.ev [1,2,3] [.own 0,.own 0,.own 0] λ _=>?_)
    refine RD.go [1,2,3] [34] []<|RD.fin<|RN.go 8 [] λ _=>RN.eB ((collideS (t.S.bods.getD (t.S.bo+((t.i).toNat)) dB).sh (⟨(motM t.S M t.i).px,(motM t.S M t.i).py⟩:V2) (t.S.bods.getD (t.S.bo+((t.j).toNat)) dB).sh (⟨(motM t.S M t.j).px,(motM t.S M t.j).py⟩:V2)).2) 67 (λ h7=>?_) λ h7=>?_
    ·refine RN.go 4 [] λ _=>RN.draw [12,13] [0,3]<|RD.go [0,3] [0,1,2,3,4,5,6,7] (ow 2 5++ow 1 5++[.own 0,.own 0,.own 0,.own 3])<|RD.cp [0,3] 8 (λ X_=>(resolve_any (motM t.S M t.i) (motM t.S M t.j) (collideS (t.S.bods.getD (t.S.bo+((t.i).toNat)) dB).sh (⟨(motM t.S M t.i).px,(motM t.S M t.i).py⟩:V2) (t.S.bods.getD (t.S.bo+((t.j).toNat)) dB).sh (⟨(motM t.S M t.j).px,(motM t.S M t.j).py⟩:V2)).1 t.S.rest _))<|RD.go [0,3] [9,10,11] []<|RD.one 12 (RDO.ev [0,3] (ow 2 5) λ _=>?_)
     refine RD.one 13 (RDO.ev [0,3] (ow 1 5) λ _=>?_)
     refine RD.fin<|RN.go 2 [] λ _=>RN.draw [6] []<|RD.go [] [0,1,5,2,3,4] (ow 2 5++[.own 3])<|RD.one 6 (RDO.ct [] [3] [0] (setMotion_any t t.i ((resolveS (motM t.S M t.i) (motM t.S M t.j) (collideS (t.S.bods.getD (t.S.bo+((t.i).toNat)) dB).sh (⟨(motM t.S M t.i).px,(motM t.S M t.i).py⟩:V2) (t.S.bods.getD (t.S.bo+((t.j).toNat)) dB).sh (⟨(motM t.S M t.j).px,(motM t.S M t.j).py⟩:V2)).1 t.S.rest).1) tb mb M (k+6) T _ hM hS.up  (hbi (bodyAt_nn hS.toSetN h1))) ?_)
     rintro _ T8 hM9
     refine RD.fin<|RN.go 2 [] λ _=>RN.draw [6] []<|RD.go [] [0,1,5,2,3,4] (ow 2 5++[.own 0])<|RD.one 6 (RDO.ct [] [0] [0] (setMotion_any t t.j ((resolveS (motM t.S M t.i) (motM t.S M t.j) (collideS (t.S.bods.getD (t.S.bo+((t.i).toNat)) dB).sh (⟨(motM t.S M t.i).px,(motM t.S M t.i).py⟩:V2) (t.S.bods.getD (t.S.bo+((t.j).toNat)) dB).sh (⟨(motM t.S M t.j).px,(motM t.S M t.j).py⟩:V2)).1 t.S.rest).2) tb mb (setMotM t t.i ((resolveS (motM t.S M t.i) (motM t.S M t.j) (collideS (t.S.bods.getD (t.S.bo+((t.i).toNat)) dB).sh (⟨(motM t.S M t.i).px,(motM t.S M t.i).py⟩:V2) (t.S.bods.getD (t.S.bo+((t.j).toNat)) dB).sh (⟨(motM t.S M t.j).px,(motM t.S M t.j).py⟩:V2)).1 t.S.rest).1) M) (k+2) T8 _ hM9 hS.up  (hbj (bodyAt_nn hS.toSetN h2))) ?_)
     rintro _ T10 hM11
     refine RD.fin<|RN.go 2 [] λ _=>RN.draw [21] []<|RD.go [] [0,4,8,14,1,5,9,15,2,6,10,16,3,7,11,17,18,19,20] (ow 0 19)<|RD.cp [] 12 (λ X_=>(lbody_any t.S t.i _ hS.toSetN)) ?_
     have hb12:=bodyAt_bd hS.toSetN t.i
     refine RD.goP [] [13] [.nw] [I64 ((bodyAt t.S t.i)+6)]<|RD.one 21 (RDO.ctK [] [] [0] (set_any ((bodyAt t.S t.i)+6) (IntKind.i64.wrap (t.j+1)) hM11 (hbi (bodyAt_nn hS.toSetN h1) 6 (by decide) (by decide))) ?_)
     rintro _ T13 hM14
     refine RD.fin<|RN.go 1 [] λ _=>RN.draw [21] []<|RD.go [] [0,4,8,14,1,5,9,15,2,6,10,16,3,7,11,17,18,19,20] (ow 0 19)<|RD.cp [] 12 (λ X_=>(lbody_any t.S t.j _ hS.toSetN)) ?_
     have hb15:=bodyAt_bd hS.toSetN t.j
     refine RD.goP [] [13] [.nw] [I64 ((bodyAt t.S t.j)+6)]<|RD.one 21 (RDO.ctK [] [] [0] (set_any ((bodyAt t.S t.j)+6) (IntKind.i64.wrap (t.i+1)) hM14 (hbj (bodyAt_nn hS.toSetN h2) 6 (by decide) (by decide))) ?_)
     rintro _ T16 hM17
     refine RD.fin<|RN.ret [] [0] [0] (v:=.tuple #[]) (H':=(ap [(tb,.lit (Stp.l K t mb) 94 (0,0))] [T16])) ?_
     refine ⟨T16,rfl,?_⟩
     have e:touchF t M=(((setMotM t t.j ((resolveS (motM t.S M t.i) (motM t.S M t.j) (collideS (t.S.bods.getD (t.S.bo+((t.i).toNat)) dB).sh (⟨(motM t.S M t.i).px,(motM t.S M t.i).py⟩:V2) (t.S.bods.getD (t.S.bo+((t.j).toNat)) dB).sh (⟨(motM t.S M t.j).px,(motM t.S M t.j).py⟩:V2)).1 t.S.rest).2) (setMotM t t.i ((resolveS (motM t.S M t.i) (motM t.S M t.j) (collideS (t.S.bods.getD (t.S.bo+((t.i).toNat)) dB).sh (⟨(motM t.S M t.i).px,(motM t.S M t.i).py⟩:V2) (t.S.bods.getD (t.S.bo+((t.j).toNat)) dB).sh (⟨(motM t.S M t.j).px,(motM t.S M t.j).py⟩:V2)).1 t.S.rest).1) M)).set ((bodyAt t.S t.i)+6) (IntKind.i64.wrap (t.j+1))).set ((bodyAt t.S t.j)+6) (IntKind.i64.wrap (t.i+1))):=by
      unfold touchF
      rw [if_pos (show 0 <= t.i /\ t.i < t.S.nb from h1),if_pos (show 0 <= t.j /\ t.j < t.S.nb from h2),if_pos (show (colT t M).2=true from h7)]
      first | done | rfl
     rw [e]
     exact hM17.weak (by omega)
    ·refine RN.go 1 [] λ _=>RN.ret [] [3] [0] (v:=.tuple #[]) (H':=(ap [(tb,.lit (Stp.l K t mb) 94 (0,0))] [T])) ?_
     refine ⟨T,rfl,?_⟩
     have e:touchF t M=M:=by
      unfold touchF
      rw [if_pos (show 0 <= t.i /\ t.i < t.S.nb from h1),if_pos (show 0 <= t.j /\ t.j < t.S.nb from h2),if_neg (show ¬ ((colT t M).2=true) from h7)]
      first | done | rfl
     rw [e]
     exact hM.weak (by omega)
   ·intro key18
    refine RD.two 12 13 ?_ ?_
    ·refine RDO.ev [] [] λ n19=>RD.one 13 (RDO.ev [] [] λ n20=>?_)
     refine RD.one 14 (RDO.ev [] (ow 1 5) λ _=>?_)
     refine RD.one 15 (RDO.ev [] (ow 0 5) λ _=>?_)
     exact key18 ⟨n19,n20⟩ [0,1,2] [0]
    ·refine RDO.ev [] [] λ n21=>RD.one 12 (RDO.ev [] [] λ n22=>?_)
     refine RD.one 14 (RDO.ev [] (ow 0 5) λ _=>?_)
     refine RD.one 15 (RDO.ev [] (ow 1 5) λ _=>?_)
     exact key18 ⟨n22,n21⟩ [1,0,2] [0]
  ·refine RN.go 1 [] λ _=>RN.ret [] [0] [0] (v:=.tuple #[]) (H':=(ap [(tb,.lit (Stp.l K t mb) 94 (0,0))] [T])) ?_
   refine ⟨T,rfl,?_⟩
   have e:touchF t M=M:=by
    unfold touchF
    rw [if_pos (show 0 <= t.i /\ t.i < t.S.nb from h1),if_neg (show ¬ (0 <= t.j /\ t.j < t.S.nb) from h2)]
    first | done | rfl
   rw [e]
   exact hM.weak (by omega)
 ·refine RN.go 11 [] λ _=>RN.ret [] [0] [0] (v:=.tuple #[]) (H':=(ap [(tb,.lit (Stp.l K t mb) 94 (0,0))] [T])) ?_
  refine ⟨T,rfl,?_⟩
  have e:touchF t M=M:=by
   unfold touchF
   rw [if_neg (show ¬ (0 <= t.i /\ t.i < t.S.nb) from h1)]
   first | done | rfl
  rw [e]
  exact hM.weak (by omega)
theorem test_full (t:Stp)  (tb mb:Nat) (M:MemS) (k:Nat) (T F:HL) (hM:MemK K D mb M (k+1) T) (hS:SetIn F t.S) (hj:0 <= t.j /\ t.j < t.S.nb) (hl:DLo D) (hbi:DBd D t.S t.i) (hbj:DBd D t.S t.j) :Sp Tryz.prog 56 #[vP tb 0] (ap [(tb,.lit (Stp.l K t mb) 94 (0,0))] [T]) F (λ u H'=>∃ x,H'=ap [(tb,.lit (Stp.l K t mb) 94 (0,0))] [x] /\ (MemK K D mb (testF t M) k x)):=by
 have hp:=hS.pl
 have hn:=hS.nb
 have hr:=hS.room
 refine Sp.run Tryz.func56 rfl (mc hS.blk mn) (A:=[(tb,.lit (Stp.l K t mb) 94 (0,0))]) (Ts:=[T]) rfl λ w0=>?_
 refine RN.go 2 [] λ _=>RN.draw [] []<|RD.go [] [0,4,1,5,2,6,3,7,8,9] [.own 0,.own 0]<|RD.em (t.i=t.j) 14 (λ h1=>?_) λ h1=>?_
 ·refine RD.go [] [10,11,12,13,14,15,16,17] []<|RD.fin<|RN.go 2 [] λ _=>RN.ret [] [0] [0] (v:=.tuple #[]) (H':=(ap [(tb,.lit (Stp.l K t mb) 94 (0,0))] [T])) ?_
  refine ⟨T,rfl,?_⟩
  have e:testF t M=M:=by
   unfold testF
   rw [if_pos (show t.i=t.j from h1)]
   first | done | rfl
  rw [e]
  exact hM.weak (by omega)
 ·refine RD.go [] [10,11,12,13,14] [.own 0]<|RD.cp [] 15 (λ X_=>(movable_any (K:=K) t t.i tb mb _ (in_apX 0) hS.up.up))<|RD.go [] [16,17] []<|RD.fin<|RN.go 1 [] λ _=>RN.en (movP t.S t.i) 22 (λ h2=>?_) λ h2=>?_
  ·have:=movP.has h2
   refine RN.go 4 [] λ _=>RN.draw [14,15] []<|RD.go [] [0,1,6,7,2,8,3,9,4,10] [.own 0,.own 0]<|RD.cp [] 5 (λ X_=>(motion_any t t.i tb mb M _ T _ (in_apX 0) hS.up.up hM (sub_apX 0) (movP.has h2) (hbi (bodyAt_nn hS.toSetN (movP.has h2)))))<|RD.cp [] 11 (λ X_=>(motion_any t t.j tb mb M _ T _ (in_apX 0) hS.up.up hM (sub_apX 0) hj (hbj (bodyAt_nn hS.toSetN hj))))<|RD.haveK (σ:=Nat × Nat) (λ ⟨n3,n4⟩=>⟨[(0,vP tb 0),(2,vP (n3+0) 0),(3,vP (n4+0) 0)],[((n4+0),.lit [vI ((motM t.S M t.j).px),vI ((motM t.S M t.j).py),vI ((motM t.S M t.j).vx),vI ((motM t.S M t.j).vy),vI ((motM t.S M t.j).inv)] 62 (0,0)),((n3+0),.lit [vI ((motM t.S M t.i).px),vI ((motM t.S M t.i).py),vI ((motM t.S M t.i).vx),vI ((motM t.S M t.i).vy),vI ((motM t.S M t.i).inv)] 62 (0,0)),(tb,.lit (Stp.l K t mb) 94 (0,0))],[T],True,0⟩) ?_ ?_
   ·rintro ⟨n3,n4⟩
    refine RN.go 2 [] λ _=>RN.draw [] []<|RD.goP [] [0,5,12,14,16,21,28,30,1,6,13,15,17,22,29,2,7,18,23,3,8,19,24,4,20,9,25,10,26,11,27] [.own 1,.own 1,.own 1,.own 1,.own 0,.own 0,.own 2,.own 2,.own 2,.own 2,.ix ((t.i).toNat),.ix ((t.j).toNat),.rorow 0 (t.S.bo+((t.i).toNat)) 0,.rorow 0 (t.S.bo+((t.i).toNat)) 1,.rorow 0 (t.S.bo+((t.j).toNat)) 0,.rorow 0 (t.S.bo+((t.j).toNat)) 1] [((t.S.bo * 9+((t.j).toNat) * 9)+1)=(t.S.bo+((t.j).toNat)) * 9+1 /\ (t.S.bo+((t.j).toNat)) < t.S.bR,(t.S.bo * 9+((t.j).toNat) * 9)=(t.S.bo+((t.j).toNat)) * 9+0 /\ (t.S.bo+((t.j).toNat)) < t.S.bR,((t.S.bo * 9+((t.i).toNat) * 9)+1)=(t.S.bo+((t.i).toNat)) * 9+1 /\ (t.S.bo+((t.i).toNat)) < t.S.bR,(t.S.bo * 9+((t.i).toNat) * 9)=(t.S.bo+((t.i).toNat)) * 9+0 /\ (t.S.bo+((t.i).toNat)) < t.S.bR,t.j=(((t.j).toNat:Nat):Int) /\ (t.j).toNat < t.S.nb,t.i=(((t.i).toNat:Nat):Int) /\ (t.i).toNat < t.S.nb]<|RD.cp [] 31 (λ X_=>(earliest_any (t.S.bods.getD (t.S.bo+((t.i).toNat)) dB).sh (⟨(motM t.S M t.i).px,(motM t.S M t.i).py⟩:V2) (⟨(motM t.S M t.i).vx,(motM t.S M t.i).vy⟩:V2) (t.S.bods.getD (t.S.bo+((t.j).toNat)) dB).sh (⟨(motM t.S M t.j).px,(motM t.S M t.j).py⟩:V2) (⟨0,0⟩:V2) _ ((hS.shp ((t.i).toNat) (by omega)).up.up) ((hS.shp ((t.j).toNat) (by omega)).up.up)))<|RD.go [] [32] []<|RD.fin<|RN.go 8 [.own 2] λ _=>RN.cpK (get_any 5 hM (hl 5 (by decide) (by decide)) (sub_ap 0))<|RN.go 3 [] λ _=>RN.em (earlS (t.S.bods.getD (t.S.bo+((t.i).toNat)) dB).sh (⟨(motM t.S M t.i).px,(motM t.S M t.i).py⟩:V2) (⟨(motM t.S M t.i).vx,(motM t.S M t.i).vy⟩:V2) (t.S.bods.getD (t.S.bo+((t.j).toNat)) dB).sh (⟨(motM t.S M t.j).px,(motM t.S M t.j).py⟩:V2) (⟨0,0⟩:V2) < M.get 5) 73 (λ h5=>?_) λ h5=>?_
    ·refine RN.go 7 [.own 2] λ _=>RN.ctK [] [0] (set_any 5 (earlS (t.S.bods.getD (t.S.bo+((t.i).toNat)) dB).sh (⟨(motM t.S M t.i).px,(motM t.S M t.i).py⟩:V2) (⟨(motM t.S M t.i).vx,(motM t.S M t.i).vy⟩:V2) (t.S.bods.getD (t.S.bo+((t.j).toNat)) dB).sh (⟨(motM t.S M t.j).px,(motM t.S M t.j).py⟩:V2) (⟨0,0⟩:V2)) hM (hl 5 (by decide) (by decide))) ?_
     rintro _ T6 hM7
     refine RN.go 1 [] λ _=>RN.ret [] [2] [0] (v:=.tuple #[]) (H':=(ap [(tb,.lit (Stp.l K t mb) 94 (0,0))] [T6])) ?_
     refine ⟨T6,rfl,?_⟩
     have e:testF t M=(M.set 5 (earlS (t.S.bods.getD (t.S.bo+((t.i).toNat)) dB).sh (⟨(motM t.S M t.i).px,(motM t.S M t.i).py⟩:V2) (⟨(motM t.S M t.i).vx,(motM t.S M t.i).vy⟩:V2) (t.S.bods.getD (t.S.bo+((t.j).toNat)) dB).sh (⟨(motM t.S M t.j).px,(motM t.S M t.j).py⟩:V2) (⟨0,0⟩:V2))):=by
      unfold testF
      rw [if_neg (show ¬ (t.i=t.j) from h1),if_pos (show movP t.S t.i from h2),if_pos (show earT t M < M.get 5 from h5)]
      first | done | rfl
     rw [e]
     exact hM7.weak (by omega)
    ·refine RN.go 2 [] λ _=>RN.ret [] [2] [0] (v:=.tuple #[]) (H':=(ap [(tb,.lit (Stp.l K t mb) 94 (0,0))] [T])) ?_
     refine ⟨T,rfl,?_⟩
     have e:testF t M=M:=by
      unfold testF
      rw [if_neg (show ¬ (t.i=t.j) from h1),if_pos (show movP t.S t.i from h2),if_neg (show ¬ (earT t M < M.get 5) from h5)]
      first | done | rfl
     rw [e]
     exact hM.weak (by omega)
   ·intro key8
    refine RD.two 12 13 ?_ ?_
    ·refine RDO.ev [] [] λ n9=>RD.one 13 (RDO.ev [] [] λ n10=>?_)
     refine RD.one 14 (RDO.ev [] (ow 1 5) λ _=>?_)
     refine RD.one 15 (RDO.ev [] (ow 0 5) λ _=>?_)
     exact key8 ⟨n9,n10⟩ [0,1,2] [0]
    ·refine RDO.ev [] [] λ n11=>RD.one 12 (RDO.ev [] [] λ n12=>?_)
     refine RD.one 14 (RDO.ev [] (ow 0 5) λ _=>?_)
     refine RD.one 15 (RDO.ev [] (ow 1 5) λ _=>?_)
     exact key8 ⟨n12,n11⟩ [1,0,2] [0]
  ·refine RN.go 1 [] λ _=>RN.ret [] [0] [0] (v:=.tuple #[]) (H':=(ap [(tb,.lit (Stp.l K t mb) 94 (0,0))] [T])) ?_
   refine ⟨T,rfl,?_⟩
   have e:testF t M=M:=by
    unfold testF
    rw [if_neg (show ¬ (t.i=t.j) from h1),if_neg (show ¬ (movP t.S t.i) from h2)]
    first | done | rfl
   rw [e]
   exact hM.weak (by omega)
theorem move_full (t:Stp)  (tb mb:Nat) (M:MemS) (k:Nat) (T F:HL) (hM:MemK K D mb M (k+8) T) (hS:SetIn F t.S)  (hl:DLo D) (hbi:DBd D t.S t.i) (hbj:DBd D t.S t.j) :Sp Tryz.prog 30 #[vP tb 0] (ap [(tb,.lit (Stp.l K t mb) 94 (0,0))] [T]) F (λ u H'=>∃ x,H'=ap [(tb,.lit (Stp.l K t mb) 94 (0,0))] [x] /\ (MemK K D mb (moveF t M) k x)):=by
 have hp:=hS.pl
 have hn:=hS.nb
 have hr:=hS.room
 refine Sp.run Tryz.func30 rfl (mc hS.blk mn) (A:=[(tb,.lit (Stp.l K t mb) 94 (0,0))]) (Ts:=[T]) rfl λ w0=>?_
 refine RN.go 8 [.own 0] λ _=>RN.cp (has_any (K:=K) t t.j tb mb _ (in_ap 0))<|RN.go 2 [] λ _=>RN.em (0 <= t.j /\ t.j < t.S.nb) 7 (λ h1=>?_) λ h1=>?_
 ·refine RN.go 4 [] λ _=>RN.ct [0] [0] (test_full t tb mb M (k+7) T _ hM hS.up (by assumption) hl hbi hbj) ?_
  rintro _ T2 hM3
  refine RN.go 3 [] λ _=>RN.draw [11] []<|RD.go [] [0,4,1,5,2,6,3,7,8,9,10] [.own 0,.own 0]<|RD.one 11 (RDO.ctK [] [] [0] (set_any 3 (IntKind.i64.wrap (t.j+1)) hM3 (hl 3 (by decide) (by decide))) ?_)
  rintro _ T4 hM5
  refine RD.fin<|RN.go 1 [] λ _=>RN.ret [] [0] [0] (v:=.tuple #[]) (H':=(ap [(tb,.lit (Stp.l K t mb) 94 (0,0))] [T4])) ?_
  refine ⟨T4,rfl,?_⟩
  have e:(moveF t M)=((testF t M).set 3 (IntKind.i64.wrap (t.j+1))):=by
   first | (simp only [moveF,moveA,if_pos h1];done) | (simp only [moveF,moveA,if_pos h1];rfl) | rfl
  rw [e]
  exact hM5.weak (by omega)
 ·refine RN.go 11 [.own 0] λ _=>RN.cp (movable_any (K:=K) t t.i tb mb _ (in_ap 0) hS.up)<|RN.go 2 [] λ _=>RN.em (movP t.S t.i) 27 (λ h6=>?_) λ h6=>?_
  ·have:=movP.has h6
   refine RN.go 3 [] λ _=>RN.ct [0] [0] (travel_any t tb mb M (k+4) T _ hM hS.up (by assumption) hl hbi) ?_
   rintro _ T7 hM8
   refine RN.go 4 [] λ _=>RN.draw [] []<|RD.go [] [0,5,1,6,2,7,3,8,4,9,10,11] [.own 0,.own 0]<|RD.fin<|RN.go 1 [] λ _=>RN.em (IntKind.i64.wrap (t.i+1) < (t.S.nb:Int)) 41 (λ h9=>?_) λ h9=>?_
   ·refine RN.go 2 [] λ _=>RN.draw [11] []<|RD.go [] [0,4,1,5,2,6,3,7,8,9,10] [.own 0,.own 0]<|RD.one 11 (RDO.ctK [] [] [0] (set_any 2 (IntKind.i64.wrap (t.i+1)) hM8 (hl 2 (by decide) (by decide))) ?_)
    rintro _ T10 hM11
    refine RD.fin<|RN.go 7 [.own 0] λ _=>RN.ctK [] [0] (set_any 3 0 hM11 (hl 3 (by decide) (by decide))) ?_
    rintro _ T12 hM13
    refine RN.go 8 [.own 0] λ _=>RN.ctK [] [0] (set_any 5 1024 hM13 (hl 5 (by decide) (by decide))) ?_
    rintro _ T14 hM15
    refine RN.go 2 [] λ _=>RN.ret [] [0] [0] (v:=.tuple #[]) (H':=(ap [(tb,.lit (Stp.l K t mb) 94 (0,0))] [T14])) ?_
    refine ⟨T14,rfl,?_⟩
    have e:(moveF t M)=((((travelM t M).set 2 (IntKind.i64.wrap (t.i+1))).set 3 0).set 5 1024):=by
     first | (simp only [moveF,moveA,if_neg h1,if_pos h6,if_pos h9];done) | (simp only [moveF,moveA,if_neg h1,if_pos h6,if_pos h9];rfl) | rfl
    rw [e]
    exact hM15.weak (by omega)
   ·refine RN.go 6 [] λ _=>RN.ct [0] [0] (begin_any t 6 0 tb mb (travelM t M) (k+1) T7 _ hM8 hS.up hl) ?_
    rintro _ T16 hM17
    refine RN.go 7 [.own 0] λ _=>RN.ctK [] [0] (set_any 5 0 hM17 (hl 5 (by decide) (by decide))) ?_
    rintro _ T18 hM19
    refine RN.go 1 [] λ _=>RN.ret [] [0] [0] (v:=.tuple #[]) (H':=(ap [(tb,.lit (Stp.l K t mb) 94 (0,0))] [T18])) ?_
    refine ⟨T18,rfl,?_⟩
    have e:(moveF t M)=((beginM t 6 0 (travelM t M)).set 5 0):=by
     first | (simp only [moveF,moveA,if_neg h1,if_pos h6,if_neg h9];done) | (simp only [moveF,moveA,if_neg h1,if_pos h6,if_neg h9];rfl) | rfl
    rw [e]
    exact hM19.weak (by omega)
  ·refine RN.go 5 [] λ _=>RN.draw [] []<|RD.go [] [0,5,1,6,2,7,3,8,4,9,10,11] [.own 0,.own 0]<|RD.fin<|RN.go 1 [] λ _=>RN.em (IntKind.i64.wrap (t.i+1) < (t.S.nb:Int)) 41 (λ h20=>?_) λ h20=>?_
   ·refine RN.go 2 [] λ _=>RN.draw [11] []<|RD.go [] [0,4,1,5,2,6,3,7,8,9,10] [.own 0,.own 0]<|RD.one 11 (RDO.ctK [] [] [0] (set_any 2 (IntKind.i64.wrap (t.i+1)) hM (hl 2 (by decide) (by decide))) ?_)
    rintro _ T21 hM22
    refine RD.fin<|RN.go 7 [.own 0] λ _=>RN.ctK [] [0] (set_any 3 0 hM22 (hl 3 (by decide) (by decide))) ?_
    rintro _ T23 hM24
    refine RN.go 8 [.own 0] λ _=>RN.ctK [] [0] (set_any 5 1024 hM24 (hl 5 (by decide) (by decide))) ?_
    rintro _ T25 hM26
    refine RN.go 2 [] λ _=>RN.ret [] [0] [0] (v:=.tuple #[]) (H':=(ap [(tb,.lit (Stp.l K t mb) 94 (0,0))] [T25])) ?_
    refine ⟨T25,rfl,?_⟩
    have e:(moveF t M)=(((M.set 2 (IntKind.i64.wrap (t.i+1))).set 3 0).set 5 1024):=by
     first | (simp only [moveF,moveA,if_neg h1,if_neg h6,if_pos h20];done) | (simp only [moveF,moveA,if_neg h1,if_neg h6,if_pos h20];rfl) | rfl
    rw [e]
    exact hM26.weak (by omega)
   ·refine RN.go 6 [] λ _=>RN.ct [0] [0] (begin_any t 6 0 tb mb M (k+5) T _ hM hS.up hl) ?_
    rintro _ T27 hM28
    refine RN.go 7 [.own 0] λ _=>RN.ctK [] [0] (set_any 5 0 hM28 (hl 5 (by decide) (by decide))) ?_
    rintro _ T29 hM30
    refine RN.go 1 [] λ _=>RN.ret [] [0] [0] (v:=.tuple #[]) (H':=(ap [(tb,.lit (Stp.l K t mb) 94 (0,0))] [T29])) ?_
    refine ⟨T29,rfl,?_⟩
    have e:(moveF t M)=((beginM t 6 0 M).set 5 0):=by
     first | (simp only [moveF,moveA,if_neg h1,if_neg h6,if_neg h20];done) | (simp only [moveF,moveA,if_neg h1,if_neg h6,if_neg h20];rfl) | rfl
    rw [e]
    exact hM30.weak (by omega)
theorem next_any (i j n r:Int) (q1 q2:Nat) (F:HL) (h1q:(q1,.lit [vI n] 3 (0,0)) ∈ F) (h2q:(q2,.lit [vI r] 3 (0,0)) ∈ F):Sp Tryz.prog 54 #[vI i,vI j,vP q1 0,vP q2 0] [] F (λ u H'=>u=.tuple #[vI ((nextI i j n r).1),vI ((nextI i j n r).2.1),vI ((nextI i j n r).2.2)] /\ H'=[]):=by
 refine Sp.run Tryz.func54 rfl (mc h1q (mc h2q mn)) (A:=[]) (Ts:=[]) rfl λ w0=>?_
 refine RN.go 18 [.ro 0] λ _=>RN.em (IntKind.i64.wrap (j+1) < n) 9 (λ h1=>?_) λ h1=>?_
 ·refine RN.go 12 [.ro 1] λ _=>RN.ret [] [] [] (v:=.tuple #[vI r,vI i,vI (IntKind.i64.wrap (j+1))]) (H':=[]) ?_
  refine ⟨?_,rfl⟩
  simp only [nextI,if_pos h1]
 ·refine RN.go 10 [.ro 0] λ _=>RN.em (IntKind.i64.wrap (i+2) < n) 18 (λ h2=>?_) λ h2=>?_
  ·refine RN.go 13 [.ro 1] λ _=>RN.ret [] [] [] (v:=.tuple #[vI r,vI (IntKind.i64.wrap (i+1)),vI (IntKind.i64.wrap (i+2))]) (H':=[]) ?_
   refine ⟨?_,rfl⟩
   simp only [nextI,if_neg h1,if_pos h2]
  ·refine RN.go 13 [.ro 1] λ _=>RN.ret [] [] [] (v:=.tuple #[vI (IntKind.i64.wrap (r+1)),vI 0,vI 1]) (H':=[]) ?_
   refine ⟨?_,rfl⟩
   simp only [nextI,if_neg h1,if_neg h2]
theorem contact_full (t:Stp)  (tb mb:Nat) (M:MemS) (k:Nat) (T F:HL) (hM:MemK K D mb M (k+14) T) (hS:SetIn F t.S)  (hl:DLo D) (hbi:DBd D t.S t.i) (hbj:DBd D t.S t.j) :Sp Tryz.prog 29 #[vP tb 0] (ap [(tb,.lit (Stp.l K t mb) 94 (0,0))] [T]) F (λ u H'=>∃ x,H'=ap [(tb,.lit (Stp.l K t mb) 94 (0,0))] [x] /\ (MemK K D mb (contactF t M) k x)):=by
 have hp:=hS.pl
 have hn:=hS.nb
 have hr:=hS.room
 refine Sp.run Tryz.func29 rfl (mc hS.blk mn) (A:=[(tb,.lit (Stp.l K t mb) 94 (0,0))]) (Ts:=[T]) rfl λ w0=>?_
 refine RN.go 1 [] λ _=>RN.draw [13,14] []<|RD.go [] [0,6,1,7,2,8,3,9,4,5] [.own 0,.own 0]<|RD.cpK [] 10 (λ X_=>(get_any 4 hM (hl 4 (by decide) (by decide)) (sub_apX 0)))<|RD.haveK (σ:=Nat × Nat) (λ ⟨n1,n2⟩=>⟨[(0,vP tb 0),(2,vP (n1+0) 0),(3,vP (n2+0) 0)],[((n2+0),.lit [vI (M.get 4)] 3 (0,0)),((n1+0),.lit [vI (t.S.nb:Int)] 3 (0,0)),(tb,.lit (Stp.l K t mb) 94 (0,0))],[T],True,0⟩) ?_ ?_
 ·rintro ⟨n1,n2⟩
  refine RN.go 3 [] λ _=>RN.draw [] []<|RD.go [] [0,1,2] [.own 1]<|RD.em ((t.S.nb:Int) < 2) 20 (λ h3=>?_) λ h3=>?_
  ·refine RD.go [] [3,4,5,6,7,8,9,10] []<|RD.fin<|RN.go 5 [] λ _=>RN.ct [2] [0] (begin_any t 5 0 tb mb M (k+11) T _ hM hS.up hl) ?_
   rintro _ T4 hM5
   refine RN.go 8 [.own 0] λ _=>RN.ctK [] [0] (set_any 5 1024 hM5 (hl 5 (by decide) (by decide))) ?_
   rintro _ T6 hM7
   refine RN.go 2 [] λ _=>RN.ret [] [0] [0] (v:=.tuple #[]) (H':=(ap [(tb,.lit (Stp.l K t mb) 94 (0,0))] [T6])) ?_
   refine ⟨T6,rfl,?_⟩
   have e:(contactF t M)=((beginM t 5 0 M).set 5 1024):=by
    first | (simp only [contactF,if_pos h3];done) | (simp only [contactF,if_pos h3];rfl) | rfl
   rw [e]
   exact hM7.weak (by omega)
  ·refine RD.go [] [3,4,5,6,7,8,9,10] [.own 0,.own 2]<|RD.fin<|RN.go 1 [] λ _=>RN.em (M.get 4 >= t.S.rounds) 28 (λ h8=>?_) λ h8=>?_
   ·refine RN.go 4 [] λ _=>RN.ct [2] [0] (begin_any t 5 0 tb mb M (k+11) T _ hM hS.up hl) ?_
    rintro _ T9 hM10
    refine RN.go 8 [.own 0] λ _=>RN.ctK [] [0] (set_any 5 1024 hM10 (hl 5 (by decide) (by decide))) ?_
    rintro _ T11 hM12
    refine RN.go 2 [] λ _=>RN.ret [] [0] [0] (v:=.tuple #[]) (H':=(ap [(tb,.lit (Stp.l K t mb) 94 (0,0))] [T11])) ?_
    refine ⟨T11,rfl,?_⟩
    have e:(contactF t M)=((beginM t 5 0 M).set 5 1024):=by
     first | (simp only [contactF,if_neg h3,if_pos h8];done) | (simp only [contactF,if_neg h3,if_pos h8];rfl) | rfl
    rw [e]
    exact hM12.weak (by omega)
   ·refine RN.go 6 [] λ _=>RN.ct [2] [0] (touch_full t tb mb M (k+4) T _ hM hS.up hbi hbj) ?_
    rintro _ T13 hM14
    refine RN.go 9 [] λ _=>RN.draw [14] [0,2]<|RD.go [0,2] [0,1,5,2,6,3,7,4,8] [.own 0,.own 0]<|RD.cp [0,2] 9 (λ X_=>(next_any t.i t.j (t.S.nb:Int) (M.get 4) (n1+0) (n2+0) _ (in_apX 2) (in_apX 1)))<|RD.go [0,2] [10,11,12,13] []<|RD.one 14 (RDO.ev [0,2] [.own 1] λ _=>?_)
    refine RD.go [0,2] [15,16] []<|RD.fin<|RN.go 2 [] λ _=>RN.draw [5] []<|RD.go [] [0,4,1,2,3] [.own 1,.own 0]<|RD.one 5 (RDO.ctK [] [] [0] (set_any 4 ((nextI t.i t.j (t.S.nb:Int) (M.get 4)).1) hM14 (hl 4 (by decide) (by decide))) ?_)
    rintro _ T15 hM16
    refine RD.fin<|RN.go 8 [.own 0] λ _=>RN.ctK [] [0] (set_any 2 ((nextI t.i t.j (t.S.nb:Int) (M.get 4)).2.1) hM16 (hl 2 (by decide) (by decide))) ?_
    rintro _ T17 hM18
    refine RN.go 8 [.own 0] λ _=>RN.ctK [] [0] (set_any 3 ((nextI t.i t.j (t.S.nb:Int) (M.get 4)).2.2) hM18 (hl 3 (by decide) (by decide))) ?_
    rintro _ T19 hM20
    refine RN.go 1 [] λ _=>RN.ret [] [0] [0] (v:=.tuple #[]) (H':=(ap [(tb,.lit (Stp.l K t mb) 94 (0,0))] [T19])) ?_
    refine ⟨T19,rfl,?_⟩
    have e:(contactF t M)=((((touchF t M).set 4 ((nextI t.i t.j (t.S.nb:Int) (M.get 4)).1)).set 2 ((nextI t.i t.j (t.S.nb:Int) (M.get 4)).2.1)).set 3 ((nextI t.i t.j (t.S.nb:Int) (M.get 4)).2.2)):=by
     first | (simp only [contactF,if_neg h3,if_neg h8];done) | (simp only [contactF,if_neg h3,if_neg h8];rfl) | rfl
    rw [e]
    exact hM20.weak (by omega)
 ·intro key21
  refine RD.two 11 12 ?_ ?_
  ·refine RDO.ev [] [] λ n22=>RD.one 12 (RDO.ev [] [] λ n23=>?_)
   refine RD.one 13 (RDO.ev [] [.own 1] λ _=>?_)
   refine RD.one 14 (RDO.ev [] [.own 0] λ _=>?_)
   exact key21 ⟨n22,n23⟩ [0,1,2] [0]
  ·refine RDO.ev [] [] λ n24=>RD.one 11 (RDO.ev [] [] λ n25=>?_)
   refine RD.one 13 (RDO.ev [] [.own 0] λ _=>?_)
   refine RD.one 14 (RDO.ev [] [.own 1] λ _=>?_)
   exact key21 ⟨n25,n24⟩ [1,0,2] [0]
end Go.Proofs.YtkhifpbokgabbaaGreatDoor
