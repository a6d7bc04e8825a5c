import Derived.Test.YtdppjkjbghbnjaaGreatDoorD08
set_option maxHeartbeats 4000000
set_option maxRecDepth 100000
set_option linter.all false
namespace Go.Proofs.YtdppjkjbghbnjaaGreatDoor
open IntKind
open Go.RowKit
def sj(t:Stp)(M:MemS):Con × Bool:=cH (t.S.body t.i.toNat).sh ⟨(ao t.S M t.i).px,(ao t.S M t.i).py⟩ (t.S.body t.j.toNat).sh ⟨(ao t.S M t.j).px,(ao t.S M t.j).py⟩
def wN(t:Stp)(M:MemS):Mot × Mot:=cI (ao t.S M t.i) (ao t.S M t.j) (sj t M).1 t.S.rest
def fE(t:Stp)(M:MemS):MemS:=((dp t t.j (wN t M).2 (dp t t.i (wN t M).1 M)).set (af t.S t.i+6) (bd (t.j+1))).set (af t.S t.j+6) (bd (t.i+1))
def dK(t:Stp)(M:MemS):MemS:=if 0 <= t.i /\ t.i<t.S.nb then if 0 <= t.j /\ t.j<t.S.nb then if (sj t M).2=true then fE t M else M else M else M
def sk(t:Stp)(M:MemS):Int:=mw (t.S.body t.i.toNat).sh ⟨(ao t.S M t.i).px,(ao t.S M t.i).py⟩ ⟨(ao t.S M t.i).vx,(ao t.S M t.i).vy⟩ (t.S.body t.j.toNat).sh ⟨(ao t.S M t.j).px,(ao t.S M t.j).py⟩ ⟨0,0⟩
def eL(t:Stp)(M:MemS):MemS:=if t.i=t.j then M else if movP t.S t.i then (if sk t M<M.get 5 then M.set 5 (sk t M) else M) else M
def fF(t:Stp)(M:MemS):MemS:=if bd (t.i+1)<t.S.nb then ((M.set 2 (bd (t.i+1))).set 3 0).set 5 1024 else (aL t 6 0 M).set 5 0
def dP(t:Stp)(M:MemS):MemS:=if 0 <= t.j /\ t.j<t.S.nb then (eL t M).set 3 (bd (t.j+1)) else fF t (if movP t.S t.i then cW t M else M)
def dz(i j n r:Int):Int × Int × Int:=if bd (j+1)<n then (r,i,bd (j+1)) else if bd (i+2)<n then (r,bd (i+1),bd (i+2)) else (bd (r+1),0,1)
def bI(t:Stp)(M:MemS):MemS:=if (t.S.nb:Int)<2 then (aL t 5 0 M).set 5 1024 else if M.get 4 >= t.S.rounds then (aL t 5 0 M).set 5 1024 else (((dK t M).set 4 (dz t.i t.j t.S.nb (M.get 4)).1).set 2 (dz t.i t.j t.S.nb (M.get 4)).2.1).set 3 (dz t.i t.j t.S.nb (M.get 4)).2.2
theorem zM(t:Stp)  (tb mb:Nat) (M:MemS) (k:Nat) (T F:HL) (hM:MemH mb M (k+10) T) (hS:SetIn F t.S) :Sp Tryz.prog 168 #[vP tb 0] (ap [(tb,.lit (Stp.l t mb) 238 (0,0))] [T]) F (λ u H'=>∃x,H'=ap [(tb,.lit (Stp.l t mb) 238 (0,0))] [x] /\ (MemH mb (dK t M) k x)):=by
 have hp:=hS.pl;have hn:=hS.nb;have hr:=hS.room;refine aat Tryz.func168 rfl (mc hS.blk mn) (A:=[(tb,.lit (Stp.l t mb) 238 (0,0))]) (Ts:=[T]) rfl λ w0=>?_;refine ae 8 [.own 0] λ _=>aah (p7 t t.i tb mb _ (av 0))<|ae 2 [] λ _=>aam (0 <= t.i /\ t.i<t.S.nb) 13 (λ h1=>?_) λ h1=>?_
 ·refine ae 5 [.own 0] λ _=>aah (p7 t t.j tb mb _ (av 0))<|ae 4 [] λ _=>aam (0 <= t.j /\ t.j<t.S.nb) 21 (λ h2=>?_) λ h2=>?_
  ·refine ae 4 [] λ _=>aak [14,15] []<|ag [] [0,1,6,7,2,8,3,9,4,10] (aab 2)<|aac [] 5 (λ X_=>(fI t t.i tb mb M _ T _ (fB 0) hS.up.up hM (aK 0) h1))<|aac [] 11 (λ X_=>(fI t t.j tb mb M _ T _ (fB 0) hS.up.up hM (aK 0) h2))<|k8 (σ:=Nat × Nat) (λ ⟨n3,n4⟩=>⟨[(0,vP tb 0),(2,vP (n3+0) 0),(3,vP (n4+0) 0)],[((n4+0),.lit [vI ((ao t.S M t.j).px),vI ((ao t.S M t.j).py),vI ((ao t.S M t.j).vx),vI ((ao t.S M t.j).vy),vI ((ao t.S M t.j).inv)] 88 (0,0)),((n3+0),.lit [vI ((ao t.S M t.i).px),vI ((ao t.S M t.i).py),vI ((ao t.S M t.i).vx),vI ((ao t.S M t.i).vy),vI ((ao t.S M t.i).inv)] 88 (0,0)),(tb,.lit (Stp.l t mb) 238 (0,0))],[T],True,0⟩) ?_ ?_
   ·rintro⟨n3,n4⟩;refine ae 2 [] λ _=>aak [33] [0,1,2]<|aD [0,1,2] [0,5,12,14,19,26,1,6,13,15,20,27,2,7,16,21,3,8,17,22,4,18,9,23,10,24,11,25] [.own 1,.own 1,.own 0,.own 0,.own 2,.own 2,.own 2,.own 2,.ix ((t.i).toNat),.ix ((t.j).toNat),.rorow 0 (t.S.bo+((t.i).toNat)) 0,.rorow 0 (t.S.bo+((t.i).toNat)) 1,.rorow 0 (t.S.bo+((t.j).toNat)) 0,.rorow 0 (t.S.bo+((t.j).toNat)) 1] [((t.S.bo*9+((t.j).toNat)*9)+1)=(t.S.bo+((t.j).toNat))*9+1 /\ (t.S.bo+((t.j).toNat))<t.S.bR,(t.S.bo*9+((t.j).toNat)*9)=(t.S.bo+((t.j).toNat))*9+0 /\ (t.S.bo+((t.j).toNat))<t.S.bR,((t.S.bo*9+((t.i).toNat)*9)+1)=(t.S.bo+((t.i).toNat))*9+1 /\ (t.S.bo+((t.i).toNat))<t.S.bR,(t.S.bo*9+((t.i).toNat)*9)=(t.S.bo+((t.i).toNat))*9+0 /\ (t.S.bo+((t.i).toNat))<t.S.bR,t.j=(((t.j).toNat:Nat):Int) /\ (t.j).toNat<t.S.nb,t.i=(((t.i).toNat:Nat):Int) /\ (t.i).toNat<t.S.nb]<|aac [0,1,2] 28 (λ X_=>(pz (t.S.bods.getD (t.S.bo+((t.i).toNat)) dB).sh (⟨(ao t.S M t.i).px,(ao t.S M t.i).py⟩:V2) (t.S.bods.getD (t.S.bo+((t.j).toNat)) dB).sh (⟨(ao t.S M t.j).px,(ao t.S M t.j).py⟩:V2) _ ((hS.shp ((t.i).toNat) (by omega)).up.up) ((hS.shp ((t.j).toNat) (by omega)).up.up)))<|ag [0,1,2] [29,30,31] []<|aae 32 (aag [] [] λ n6=>?_);refine aae 33 (aag [1,2,3] (aab 3) λ _=>?_);refine ag [1,2,3] [34] []<|aad<|ae 8 [] λ _=>qu ((cH (t.S.bods.getD (t.S.bo+((t.i).toNat)) dB).sh (⟨(ao t.S M t.i).px,(ao t.S M t.i).py⟩:V2) (t.S.bods.getD (t.S.bo+((t.j).toNat)) dB).sh (⟨(ao t.S M t.j).px,(ao t.S M t.j).py⟩:V2)).2) 67 (λ h7=>?_) λ h7=>?_
    ·refine ae 4 [] λ _=>aak [12,13] [0,3]<|ag [0,3] [0,1,2,3,4,5,6,7] (ow 2 5++ow 1 5++[.own 0,.own 0,.own 0,.own 3])<|aac [0,3] 8 (λ X_=>(wM (ao t.S M t.i) (ao t.S M t.j) (cH (t.S.bods.getD (t.S.bo+((t.i).toNat)) dB).sh (⟨(ao t.S M t.i).px,(ao t.S M t.i).py⟩:V2) (t.S.bods.getD (t.S.bo+((t.j).toNat)) dB).sh (⟨(ao t.S M t.j).px,(ao t.S M t.j).py⟩:V2)).1 t.S.rest _))<|ag [0,3] [9,10,11] []<|aae 12 (aag [0,3] (ow 2 5) λ _=>?_);refine aae 13 (aag [0,3] (ow 1 5) λ _=>?_);refine aad<|ae 2 [] λ _=>aak [6] []<|ag [] [0,1,5,2,3,4] (ow 2 5++[.own 3])<|aae 6 (aaf [] [3] [0] (mv t t.i ((cI (ao t.S M t.i) (ao t.S M t.j) (cH (t.S.bods.getD (t.S.bo+((t.i).toNat)) dB).sh (⟨(ao t.S M t.i).px,(ao t.S M t.i).py⟩:V2) (t.S.bods.getD (t.S.bo+((t.j).toNat)) dB).sh (⟨(ao t.S M t.j).px,(ao t.S M t.j).py⟩:V2)).1 t.S.rest).1) tb mb M (k+6) T _ hM hS.up ) ?_);rintro _ T8 U6;refine aad<|ae 2 [] λ _=>aak [6] []<|ag [] [0,1,5,2,3,4] (ow 2 5++[.own 0])<|aae 6 (aaf [] [0] [0] (mv t t.j ((cI (ao t.S M t.i) (ao t.S M t.j) (cH (t.S.bods.getD (t.S.bo+((t.i).toNat)) dB).sh (⟨(ao t.S M t.i).px,(ao t.S M t.i).py⟩:V2) (t.S.bods.getD (t.S.bo+((t.j).toNat)) dB).sh (⟨(ao t.S M t.j).px,(ao t.S M t.j).py⟩:V2)).1 t.S.rest).2) tb mb (dp t t.i ((cI (ao t.S M t.i) (ao t.S M t.j) (cH (t.S.bods.getD (t.S.bo+((t.i).toNat)) dB).sh (⟨(ao t.S M t.i).px,(ao t.S M t.i).py⟩:V2) (t.S.bods.getD (t.S.bo+((t.j).toNat)) dB).sh (⟨(ao t.S M t.j).px,(ao t.S M t.j).py⟩:V2)).1 t.S.rest).1) M) (k+2) T8 _ U6 hS.up ) ?_);rintro _ SX R3;refine aad<|ae 2 [] λ _=>aak [21] []<|ag [] [0,4,8,14,1,5,9,15,2,6,10,16,3,7,11,17,18,19,20] (ow 0 19)<|aac [] 12 (λ X_=>(cR t.S t.i _ hS.toSetN)) ?_;have akV:=cQ hS.toSetN t.i;refine aD [] [13] [.nw] [bx ((af t.S t.i)+6)]<|aae 21 (aaf [] [] [0] (ai ((af t.S t.i)+6) (i64.wrap (t.j+1)) R3) ?_);rintro _ SC SQ;refine aad<|ae 1 [] λ _=>aak [21] []<|ag [] [0,4,8,14,1,5,9,15,2,6,10,16,3,7,11,17,18,19,20] (ow 0 19)<|aac [] 12 (λ X_=>(cR t.S t.j _ hS.toSetN)) ?_;have akU:=cQ hS.toSetN t.j;refine aD [] [13] [.nw] [bx ((af t.S t.j)+6)]<|aae 21 (aaf [] [] [0] (ai ((af t.S t.j)+6) (i64.wrap (t.i+1)) SQ) ?_);rintro _ Ww Uw;refine aad<|aap [] [0] [0] (v:=.tuple #[]) (H':=(ap [(tb,.lit (Stp.l t mb) 238 (0,0))] [Ww])) ?_;refine⟨Ww,rfl,?_⟩;have e:dK t M=(((dp t t.j ((cI (ao t.S M t.i) (ao t.S M t.j) (cH (t.S.bods.getD (t.S.bo+((t.i).toNat)) dB).sh (⟨(ao t.S M t.i).px,(ao t.S M t.i).py⟩:V2) (t.S.bods.getD (t.S.bo+((t.j).toNat)) dB).sh (⟨(ao t.S M t.j).px,(ao t.S M t.j).py⟩:V2)).1 t.S.rest).2) (dp t t.i ((cI (ao t.S M t.i) (ao t.S M t.j) (cH (t.S.bods.getD (t.S.bo+((t.i).toNat)) dB).sh (⟨(ao t.S M t.i).px,(ao t.S M t.i).py⟩:V2) (t.S.bods.getD (t.S.bo+((t.j).toNat)) dB).sh (⟨(ao t.S M t.j).px,(ao t.S M t.j).py⟩:V2)).1 t.S.rest).1) M)).set ((af t.S t.i)+6) (i64.wrap (t.j+1))).set ((af t.S t.j)+6) (i64.wrap (t.i+1))):=by
      unfold dK;rw[if_pos (show 0 <= t.i /\ t.i<t.S.nb from h1),if_pos (show 0 <= t.j /\ t.j<t.S.nb from h2),if_pos (show (sj t M).2=true from h7)]
      first|done|rfl
     rw[e];exact Uw.weak (by omega)
    ·refine ae 1 [] λ _=>aap [] [3] [0] (v:=.tuple #[]) (H':=(ap [(tb,.lit (Stp.l t mb) 238 (0,0))] [T])) ?_;refine⟨T,rfl,?_⟩;have e:dK t M=M:=by
      unfold dK;rw[if_pos (show 0 <= t.i /\ t.i<t.S.nb from h1),if_pos (show 0 <= t.j /\ t.j<t.S.nb from h2),if_neg (show ¬ ((sj t M).2=true) from h7)]
      first|done|rfl
     rw[e];exact hM.weak (by omega)
   ·intro XI;refine ge 12 13 ?_ ?_
    ·refine aag [] [] λ ZG=>aae 13 (aag [] [] λ UE=>?_);refine aae 14 (aag [] (ow 1 5) λ _=>?_);refine aae 15 (aag [] (ow 0 5) λ _=>?_);exact XI ⟨ZG,UE⟩ [0,1,2] [0]
    ·refine aag [] [] λ Rl=>aae 12 (aag [] [] λ n22=>?_);refine aae 14 (aag [] (ow 0 5) λ _=>?_);refine aae 15 (aag [] (ow 1 5) λ _=>?_);exact XI ⟨n22,Rl⟩ [1,0,2] [0]
  ·refine ae 1 [] λ _=>aap [] [0] [0] (v:=.tuple #[]) (H':=(ap [(tb,.lit (Stp.l t mb) 238 (0,0))] [T])) ?_;refine⟨T,rfl,?_⟩;have e:dK t M=M:=by
    unfold dK;rw[if_pos (show 0 <= t.i /\ t.i<t.S.nb from h1),if_neg (show ¬ (0 <= t.j /\ t.j<t.S.nb) from h2)]
    first|done|rfl
   rw[e];exact hM.weak (by omega)
 ·refine ae 11 [] λ _=>aap [] [0] [0] (v:=.tuple #[]) (H':=(ap [(tb,.lit (Stp.l t mb) 238 (0,0))] [T])) ?_;refine⟨T,rfl,?_⟩;have e:dK t M=M:=by
   unfold dK;rw[if_neg (show ¬ (0 <= t.i /\ t.i<t.S.nb) from h1)]
   first|done|rfl
  rw[e];exact hM.weak (by omega)
theorem Dq(t:Stp)  (tb mb:Nat) (M:MemS) (k:Nat) (T F:HL) (hM:MemH mb M (k+1) T) (hS:SetIn F t.S) (hj:0 <= t.j /\ t.j<t.S.nb):Sp Tryz.prog 171 #[vP tb 0] (ap [(tb,.lit (Stp.l t mb) 238 (0,0))] [T]) F (λ u H'=>∃x,H'=ap [(tb,.lit (Stp.l t mb) 238 (0,0))] [x] /\ (MemH mb (eL t M) k x)):=by
 have hp:=hS.pl;have hn:=hS.nb;have hr:=hS.room;refine aat Tryz.func171 rfl (mc hS.blk mn) (A:=[(tb,.lit (Stp.l t mb) 238 (0,0))]) (Ts:=[T]) rfl λ w0=>?_;refine ae 2 [] λ _=>aak [] []<|ag [] [0,4,1,5,2,6,3,7,8,9] (aab 2)<|RD.em (t.i=t.j) 14 (λ h1=>?_) λ h1=>?_
 ·refine ag [] [10,11,12,13,14,15,16,17] []<|aad<|ae 2 [] λ _=>aap [] [0] [0] (v:=.tuple #[]) (H':=(ap [(tb,.lit (Stp.l t mb) 238 (0,0))] [T])) ?_;refine⟨T,rfl,?_⟩;have e:eL t M=M:=by
   unfold eL;rw[if_pos (show t.i=t.j from h1)]
   first|done|rfl
  rw[e];exact hM.weak (by omega)
 ·refine ag [] [10,11,12,13,14] [.own 0]<|aac [] 15 (λ X_=>(jq t t.i tb mb _ (fB 0) hS.up.up))<|ag [] [16,17] []<|aad<|ae 1 [] λ _=>aam (movP t.S t.i) 22 (λ h2=>?_) λ h2=>?_
  ·have:=movP.has h2;refine ae 4 [] λ _=>aak [14,15] []<|ag [] [0,1,6,7,2,8,3,9,4,10] (aab 2)<|aac [] 5 (λ X_=>(fI t t.i tb mb M _ T _ (fB 0) hS.up.up hM (aK 0) (movP.has h2)))<|aac [] 11 (λ X_=>(fI t t.j tb mb M _ T _ (fB 0) hS.up.up hM (aK 0) hj))<|k8 (σ:=Nat × Nat) (λ ⟨n3,n4⟩=>⟨[(0,vP tb 0),(2,vP (n3+0) 0),(3,vP (n4+0) 0)],[((n4+0),.lit [vI ((ao t.S M t.j).px),vI ((ao t.S M t.j).py),vI ((ao t.S M t.j).vx),vI ((ao t.S M t.j).vy),vI ((ao t.S M t.j).inv)] 88 (0,0)),((n3+0),.lit [vI ((ao t.S M t.i).px),vI ((ao t.S M t.i).py),vI ((ao t.S M t.i).vx),vI ((ao t.S M t.i).vy),vI ((ao t.S M t.i).inv)] 88 (0,0)),(tb,.lit (Stp.l t mb) 238 (0,0))],[T],True,0⟩) ?_ ?_
   ·rintro⟨n3,n4⟩;refine ae 2 [] λ _=>aak [] []<|aD [] [0,5,12,14,16,21,28,30,1,6,13,15,17,22,29,2,7,18,23,3,8,19,24,4,20,9,25,10,26,11,27] [.own 1,.own 1,.own 1,.own 1,.own 0,.own 0,.own 2,.own 2,.own 2,.own 2,.ix ((t.i).toNat),.ix ((t.j).toNat),.rorow 0 (t.S.bo+((t.i).toNat)) 0,.rorow 0 (t.S.bo+((t.i).toNat)) 1,.rorow 0 (t.S.bo+((t.j).toNat)) 0,.rorow 0 (t.S.bo+((t.j).toNat)) 1] [((t.S.bo*9+((t.j).toNat)*9)+1)=(t.S.bo+((t.j).toNat))*9+1 /\ (t.S.bo+((t.j).toNat))<t.S.bR,(t.S.bo*9+((t.j).toNat)*9)=(t.S.bo+((t.j).toNat))*9+0 /\ (t.S.bo+((t.j).toNat))<t.S.bR,((t.S.bo*9+((t.i).toNat)*9)+1)=(t.S.bo+((t.i).toNat))*9+1 /\ (t.S.bo+((t.i).toNat))<t.S.bR,(t.S.bo*9+((t.i).toNat)*9)=(t.S.bo+((t.i).toNat))*9+0 /\ (t.S.bo+((t.i).toNat))<t.S.bR,t.j=(((t.j).toNat:Nat):Int) /\ (t.j).toNat<t.S.nb,t.i=(((t.i).toNat:Nat):Int) /\ (t.i).toNat<t.S.nb]<|aac [] 31 (λ X_=>(uK (t.S.bods.getD (t.S.bo+((t.i).toNat)) dB).sh (⟨(ao t.S M t.i).px,(ao t.S M t.i).py⟩:V2) (⟨(ao t.S M t.i).vx,(ao t.S M t.i).vy⟩:V2) (t.S.bods.getD (t.S.bo+((t.j).toNat)) dB).sh (⟨(ao t.S M t.j).px,(ao t.S M t.j).py⟩:V2) (⟨0,0⟩:V2) _ ((hS.shp ((t.i).toNat) (by omega)).up.up) ((hS.shp ((t.j).toNat) (by omega)).up.up)))<|ag [] [32] []<|aad<|ae 8 [.own 2] λ _=>aah (ay 5 hM (au 0))<|ae 3 [] λ _=>aal (mw (t.S.bods.getD (t.S.bo+((t.i).toNat)) dB).sh (⟨(ao t.S M t.i).px,(ao t.S M t.i).py⟩:V2) (⟨(ao t.S M t.i).vx,(ao t.S M t.i).vy⟩:V2) (t.S.bods.getD (t.S.bo+((t.j).toNat)) dB).sh (⟨(ao t.S M t.j).px,(ao t.S M t.j).py⟩:V2) (⟨0,0⟩:V2)<M.get 5) 73 (λ h5=>?_) λ h5=>?_
    ·refine ae 7 [.own 2] λ _=>aai [] [0] (ai 5 (mw (t.S.bods.getD (t.S.bo+((t.i).toNat)) dB).sh (⟨(ao t.S M t.i).px,(ao t.S M t.i).py⟩:V2) (⟨(ao t.S M t.i).vx,(ao t.S M t.i).vy⟩:V2) (t.S.bods.getD (t.S.bo+((t.j).toNat)) dB).sh (⟨(ao t.S M t.j).px,(ao t.S M t.j).py⟩:V2) (⟨0,0⟩:V2)) hM) ?_;rintro _ T6 Xm;refine ae 1 [] λ _=>aap [] [2] [0] (v:=.tuple #[]) (H':=(ap [(tb,.lit (Stp.l t mb) 238 (0,0))] [T6])) ?_;refine⟨T6,rfl,?_⟩;have e:eL t M=(M.set 5 (mw (t.S.bods.getD (t.S.bo+((t.i).toNat)) dB).sh (⟨(ao t.S M t.i).px,(ao t.S M t.i).py⟩:V2) (⟨(ao t.S M t.i).vx,(ao t.S M t.i).vy⟩:V2) (t.S.bods.getD (t.S.bo+((t.j).toNat)) dB).sh (⟨(ao t.S M t.j).px,(ao t.S M t.j).py⟩:V2) (⟨0,0⟩:V2))):=by
      unfold eL;rw[if_neg (show ¬ (t.i=t.j) from h1),if_pos (show movP t.S t.i from h2),if_pos (show sk t M<M.get 5 from h5)]
      first|done|rfl
     rw[e];exact Xm.weak (by omega)
    ·refine ae 2 [] λ _=>aap [] [2] [0] (v:=.tuple #[]) (H':=(ap [(tb,.lit (Stp.l t mb) 238 (0,0))] [T])) ?_;refine⟨T,rfl,?_⟩;have e:eL t M=M:=by
      unfold eL;rw[if_neg (show ¬ (t.i=t.j) from h1),if_pos (show movP t.S t.i from h2),if_neg (show ¬ (sk t M<M.get 5) from h5)]
      first|done|rfl
     rw[e];exact hM.weak (by omega)
   ·intro Vv;refine ge 12 13 ?_ ?_
    ·refine aag [] [] λ n9=>aae 13 (aag [] [] λ SZ=>?_);refine aae 14 (aag [] (ow 1 5) λ _=>?_);refine aae 15 (aag [] (ow 0 5) λ _=>?_);exact Vv ⟨n9,SZ⟩ [0,1,2] [0]
    ·refine aag [] [] λ n11=>aae 12 (aag [] [] λ ZI=>?_);refine aae 14 (aag [] (ow 0 5) λ _=>?_);refine aae 15 (aag [] (ow 1 5) λ _=>?_);exact Vv ⟨ZI,n11⟩ [1,0,2] [0]
  ·refine ae 1 [] λ _=>aap [] [0] [0] (v:=.tuple #[]) (H':=(ap [(tb,.lit (Stp.l t mb) 238 (0,0))] [T])) ?_;refine⟨T,rfl,?_⟩;have e:eL t M=M:=by
    unfold eL;rw[if_neg (show ¬ (t.i=t.j) from h1),if_neg (show ¬ (movP t.S t.i) from h2)]
    first|done|rfl
   rw[e];exact hM.weak (by omega)
theorem Ds(t:Stp)  (tb mb:Nat) (M:MemS) (k:Nat) (T F:HL) (hM:MemH mb M (k+8) T) (hS:SetIn F t.S) :Sp Tryz.prog 136 #[vP tb 0] (ap [(tb,.lit (Stp.l t mb) 238 (0,0))] [T]) F (λ u H'=>∃x,H'=ap [(tb,.lit (Stp.l t mb) 238 (0,0))] [x] /\ (MemH mb (dP t M) k x)):=by
 have hp:=hS.pl;have hn:=hS.nb;have hr:=hS.room;refine aat Tryz.func136 rfl (mc hS.blk mn) (A:=[(tb,.lit (Stp.l t mb) 238 (0,0))]) (Ts:=[T]) rfl λ w0=>?_;refine ae 8 [.own 0] λ _=>aah (p7 t t.j tb mb _ (av 0))<|ae 2 [] λ _=>aal (0 <= t.j /\ t.j<t.S.nb) 7 (λ h1=>?_) λ h1=>?_
 ·refine ae 4 [] λ _=>aai [0] [0] (Dq t tb mb M (k+7) T _ hM hS.up (by assumption)) ?_;rintro _ T2 SN;refine ae 3 [] λ _=>aak [11] []<|ag [] [0,4,1,5,2,6,3,7,8,9,10] (aab 2)<|aae 11 (aaf [] [] [0] (ai 3 (i64.wrap (t.j+1)) SN) ?_);rintro _ T4 Tw;refine aad<|ae 1 [] λ _=>aap [] [0] [0] (v:=.tuple #[]) (H':=(ap [(tb,.lit (Stp.l t mb) 238 (0,0))] [T4])) ?_;refine⟨T4,rfl,?_⟩;have e:(dP t M)=((eL t M).set 3 (i64.wrap (t.j+1))):=by
   first|(simp only[dP,fF,if_pos h1];try rfl;done)|rfl
  rw[e];exact Tw.weak (by omega)
 ·refine ae 11 [.own 0] λ _=>aah (jq t t.i tb mb _ (av 0) hS.up)<|ae 2 [] λ _=>aal (movP t.S t.i) 27 (λ h6=>?_) λ h6=>?_
  ·have:=movP.has h6;refine ae 3 [] λ _=>aai [0] [0] (zD t tb mb M (k+4) T _ hM hS.up (by assumption)) ?_;rintro _ T7 Tv;refine ae 4 [] λ _=>aak [] []<|ag [] [0,5,1,6,2,7,3,8,4,9,10,11] (aab 2)<|aad<|ae 1 [] λ _=>aal (i64.wrap (t.i+1)<(t.S.nb:Int)) 41 (λ h9=>?_) λ h9=>?_
   ·refine ae 2 [] λ _=>aak [11] []<|ag [] [0,4,1,5,2,6,3,7,8,9,10] (aab 2)<|aae 11 (aaf [] [] [0] (ai 2 (i64.wrap (t.i+1)) Tv) ?_);rintro _ SX R3;refine aad<|ae 7 [.own 0] λ _=>aai [] [0] (ai 3 0 R3) ?_;rintro _ ZC Wm;refine ae 8 [.own 0] λ _=>aai [] [0] (ai 5 1024 Wm) ?_;rintro _ XB Ux;refine ae 2 [] λ _=>aap [] [0] [0] (v:=.tuple #[]) (H':=(ap [(tb,.lit (Stp.l t mb) 238 (0,0))] [XB])) ?_;refine⟨XB,rfl,?_⟩;have e:(dP t M)=((((cW t M).set 2 (i64.wrap (t.i+1))).set 3 0).set 5 1024):=by
     first|(simp only[dP,fF,if_neg h1,if_pos h6,if_pos h9];try rfl;done)|rfl
    rw[e];exact Ux.weak (by omega)
   ·refine ae 6 [] λ _=>aai [0] [0] (bT t 6 0 tb mb (cW t M) (k+1) T7 _ Tv hS.up ) ?_;rintro _ Ww Uw;refine ae 7 [.own 0] λ _=>aai [] [0] (ai 5 0 Uw) ?_;rintro _ Z4 Wl;refine ae 1 [] λ _=>aap [] [0] [0] (v:=.tuple #[]) (H':=(ap [(tb,.lit (Stp.l t mb) 238 (0,0))] [Z4])) ?_;refine⟨Z4,rfl,?_⟩;have e:(dP t M)=((aL t 6 0 (cW t M)).set 5 0):=by
     first|(simp only[dP,fF,if_neg h1,if_pos h6,if_neg h9];try rfl;done)|rfl
    rw[e];exact Wl.weak (by omega)
  ·refine ae 5 [] λ _=>aak [] []<|ag [] [0,5,1,6,2,7,3,8,4,9,10,11] (aab 2)<|aad<|ae 1 [] λ _=>aal (i64.wrap (t.i+1)<(t.S.nb:Int)) 41 (λ ZW=>?_) λ ZW=>?_
   ·refine ae 2 [] λ _=>aak [11] []<|ag [] [0,4,1,5,2,6,3,7,8,9,10] (aab 2)<|aae 11 (aaf [] [] [0] (ai 2 (i64.wrap (t.i+1)) hM) ?_);rintro _ T21 Xp;refine aad<|ae 7 [.own 0] λ _=>aai [] [0] (ai 3 0 Xp) ?_;rintro _ Yb Zn;refine ae 8 [.own 0] λ _=>aai [] [0] (ai 5 1024 Zn) ?_;rintro _ X9 U8;refine ae 2 [] λ _=>aap [] [0] [0] (v:=.tuple #[]) (H':=(ap [(tb,.lit (Stp.l t mb) 238 (0,0))] [X9])) ?_;refine⟨X9,rfl,?_⟩;have e:(dP t M)=(((M.set 2 (i64.wrap (t.i+1))).set 3 0).set 5 1024):=by
     first|(simp only[dP,fF,if_neg h1,if_neg h6,if_pos ZW];try rfl;done)|rfl
    rw[e];exact U8.weak (by omega)
   ·refine ae 6 [] λ _=>aai [0] [0] (bT t 6 0 tb mb M (k+5) T _ hM hS.up ) ?_;rintro _ UC SO;refine ae 7 [.own 0] λ _=>aai [] [0] (ai 5 0 SO) ?_;rintro _ XA SM;refine ae 1 [] λ _=>aap [] [0] [0] (v:=.tuple #[]) (H':=(ap [(tb,.lit (Stp.l t mb) 238 (0,0))] [XA])) ?_;refine⟨XA,rfl,?_⟩;have e:(dP t M)=((aL t 6 0 M).set 5 0):=by
     first|(simp only[dP,fF,if_neg h1,if_neg h6,if_neg ZW];try rfl;done)|rfl
    rw[e];exact SM.weak (by omega)
theorem Gf(i j n r:Int)(q1 q2:Nat)(F:HL)(h1q:(q1,.lit [vI n] 3 (0,0))∈F)(h2q:(q2,.lit [vI r] 3 (0,0))∈F):Sp Tryz.prog 169 #[vI i,vI j,vP q1 0,vP q2 0] [] F (λ u H'=>u=.tuple #[vI ((dz i j n r).1),vI ((dz i j n r).2.1),vI ((dz i j n r).2.2)] /\ H'=[]):=by
 refine aat Tryz.func169 rfl (mc h1q (mc h2q mn)) (A:=[]) (Ts:=[]) rfl λ w0=>?_;refine ae 18 [.ro 0] λ _=>aal (i64.wrap (j+1)<n) 9 (λ h1=>?_) λ h1=>?_
 ·refine ae 12 [.ro 1] λ _=>aap [] [] [] (v:=.tuple #[vI r,vI i,vI (i64.wrap (j+1))]) (H':=[]) ?_;refine⟨?_,rfl⟩;simp only[dz,if_pos h1]
 ·refine ae 10 [.ro 0] λ _=>aal (i64.wrap (i+2)<n) 18 (λ h2=>?_) λ h2=>?_
  ·refine ae 13 [.ro 1] λ _=>aap [] [] [] (v:=.tuple #[vI r,vI (i64.wrap (i+1)),vI (i64.wrap (i+2))]) (H':=[]) ?_;refine⟨?_,rfl⟩;simp only[dz,if_neg h1,if_pos h2]
  ·refine ae 13 [.ro 1] λ _=>aap [] [] [] (v:=.tuple #[vI (i64.wrap (r+1)),vI 0,vI 1]) (H':=[]) ?_;refine⟨?_,rfl⟩;simp only[dz,if_neg h1,if_neg h2]
theorem uL(t:Stp)  (tb mb:Nat) (M:MemS) (k:Nat) (T F:HL) (hM:MemH mb M (k+14) T) (hS:SetIn F t.S) :Sp Tryz.prog 135 #[vP tb 0] (ap [(tb,.lit (Stp.l t mb) 238 (0,0))] [T]) F (λ u H'=>∃x,H'=ap [(tb,.lit (Stp.l t mb) 238 (0,0))] [x] /\ (MemH mb (bI t M) k x)):=by
 have hp:=hS.pl;have hn:=hS.nb;have hr:=hS.room;refine aat Tryz.func135 rfl (mc hS.blk mn) (A:=[(tb,.lit (Stp.l t mb) 238 (0,0))]) (Ts:=[T]) rfl λ w0=>?_;refine ae 1 [] λ _=>aak [13,14] []<|ag [] [0,6,1,7,2,8,3,9,4,5] (aab 2)<|aac [] 10 (λ X_=>(ay 4 hM (aK 0)))<|k8 (σ:=Nat × Nat) (λ ⟨n1,n2⟩=>⟨[(0,vP tb 0),(2,vP (n1+0) 0),(3,vP (n2+0) 0)],[((n2+0),.lit [vI (M.get 4)] 3 (0,0)),((n1+0),.lit [vI (t.S.nb:Int)] 3 (0,0)),(tb,.lit (Stp.l t mb) 238 (0,0))],[T],True,0⟩) ?_ ?_
 ·rintro⟨n1,n2⟩;refine ae 3 [] λ _=>aak [] []<|ag [] [0,1,2] [.own 1]<|RD.em ((t.S.nb:Int)<2) 20 (λ h3=>?_) λ h3=>?_
  ·refine ag [] [3,4,5,6,7,8,9,10] []<|aad<|ae 5 [] λ _=>aai [2] [0] (bT t 5 0 tb mb M (k+11) T _ hM hS.up ) ?_;rintro _ T4 Tw;refine ae 8 [.own 0] λ _=>aai [] [0] (ai 5 1024 Tw) ?_;rintro _ T6 Xm;refine ae 2 [] λ _=>aap [] [0] [0] (v:=.tuple #[]) (H':=(ap [(tb,.lit (Stp.l t mb) 238 (0,0))] [T6])) ?_;refine⟨T6,rfl,?_⟩;have e:(bI t M)=((aL t 5 0 M).set 5 1024):=by
    first|(simp only[bI,if_pos h3];try rfl;done)|rfl
   rw[e];exact Xm.weak (by omega)
  ·refine ag [] [3,4,5,6,7,8,9,10] [.own 0,.own 2]<|aad<|ae 1 [] λ _=>aal (M.get 4 >= t.S.rounds) 28 (λ h8=>?_) λ h8=>?_
   ·refine ae 4 [] λ _=>aai [2] [0] (bT t 5 0 tb mb M (k+11) T _ hM hS.up ) ?_;rintro _ T9 Su;refine ae 8 [.own 0] λ _=>aai [] [0] (ai 5 1024 Su) ?_;rintro _ Rm Q_;refine ae 2 [] λ _=>aap [] [0] [0] (v:=.tuple #[]) (H':=(ap [(tb,.lit (Stp.l t mb) 238 (0,0))] [Rm])) ?_;refine⟨Rm,rfl,?_⟩;have e:(bI t M)=((aL t 5 0 M).set 5 1024):=by
     first|(simp only[bI,if_neg h3,if_pos h8];try rfl;done)|rfl
    rw[e];exact Q_.weak (by omega)
   ·refine ae 6 [] λ _=>aai [2] [0] (zM t tb mb M (k+4) T _ hM hS.up ) ?_;rintro _ SC SQ;refine ae 9 [] λ _=>aak [14] [0,2]<|ag [0,2] [0,1,5,2,6,3,7,4,8] (aab 2)<|aac [0,2] 9 (λ X_=>(Gf t.i t.j (t.S.nb:Int) (M.get 4) (n1+0) (n2+0) _ (fB 2) (fB 1)))<|ag [0,2] [10,11,12,13] []<|aae 14 (aag [0,2] [.own 1] λ _=>?_);refine ag [0,2] [15,16] []<|aad<|ae 2 [] λ _=>aak [5] []<|ag [] [0,4,1,2,3] [.own 1,.own 0]<|aae 5 (aaf [] [] [0] (ai 4 ((dz t.i t.j (t.S.nb:Int) (M.get 4)).1) SQ) ?_);rintro _ Sy SP;refine aad<|ae 8 [.own 0] λ _=>aai [] [0] (ai 2 ((dz t.i t.j (t.S.nb:Int) (M.get 4)).2.1) SP) ?_;rintro _ Sx RE;refine ae 8 [.own 0] λ _=>aai [] [0] (ai 3 ((dz t.i t.j (t.S.nb:Int) (M.get 4)).2.2) RE) ?_;rintro _ Ve Wk;refine ae 1 [] λ _=>aap [] [0] [0] (v:=.tuple #[]) (H':=(ap [(tb,.lit (Stp.l t mb) 238 (0,0))] [Ve])) ?_;refine⟨Ve,rfl,?_⟩;have e:(bI t M)=((((dK t M).set 4 ((dz t.i t.j (t.S.nb:Int) (M.get 4)).1)).set 2 ((dz t.i t.j (t.S.nb:Int) (M.get 4)).2.1)).set 3 ((dz t.i t.j (t.S.nb:Int) (M.get 4)).2.2)):=by
     first|(simp only[bI,if_neg h3,if_neg h8];try rfl;done)|rfl
    rw[e];exact Wk.weak (by omega)
 ·intro XH;refine ge 11 12 ?_ ?_
  ·refine aag [] [] λ n22=>aae 12 (aag [] [] λ n23=>?_);refine aae 13 (aag [] [.own 1] λ _=>?_);refine aae 14 (aag [] [.own 0] λ _=>?_);exact XH ⟨n22,n23⟩ [0,1,2] [0]
  ·refine aag [] [] λ n24=>aae 11 (aag [] [] λ Vt=>?_);refine aae 13 (aag [] [.own 0] λ _=>?_);refine aae 14 (aag [] [.own 1] λ _=>?_);exact XH ⟨Vt,n24⟩ [1,0,2] [0]
theorem Gg(t:Stp)  (tb mb:Nat) (M:MemS) (k:Nat) (T F:HL) (hM:MemH mb M (k+14) T) (hS:SetIn F t.S) :Sp Tryz.prog 138 #[vP tb 0] (ap [(tb,.lit (Stp.l t mb) 238 (0,0))] [T]) F (λ u H'=>∃x,H'=ap [(tb,.lit [.iface 113 (vP mb 0),vI t.S.players,vS t.S.bb (t.S.bo*9) t.S.nb t.S.bc,vI t.S.box.x0,vI t.S.box.y0,vI t.S.box.x1,vI t.S.box.y1,.slice t.S.rA t.S.rn t.S.rc,.slice t.S.dA t.S.dn t.S.dc,vI t.S.fog,vI t.S.g.x,vI t.S.g.y,vI t.S.push,vI t.S.drag,vI t.S.rest,vI t.S.rounds,vI t.S.fuel,.slice t.cA t.cn t.cc,vI t.e0,vI t.e1,vI t.e2,vI t.version,vS t.ib (t.io*3) t.ni t.ic,vI t.i,vI t.j,.bool (fN t),vI t.f0,vI t.f1,vI t.f2,vI t.f3,.bool t.emitted] 238 (0,0))] [x] /\ (MemH mb (du t M) k x)):=by
 have hp:=hS.pl;have hn:=hS.nb;have hr:=hS.room;refine aat Tryz.func138 rfl (mc hS.blk mn) (A:=[(tb,.lit (Stp.l t mb) 238 (0,0))]) (Ts:=[T]) rfl λ w0=>?_;refine ae 2 [] λ _=>aak [] []<|ag [] [0,4,1,5,2,6,3,7] (ow 0 17)<|aac [] 8 (λ X_=>(cR t.S t.i _ hS.toSetN)) ?_;have Uu:=cQ hS.toSetN t.i;refine ag [] [9] []<|aad<|ae 7 [] λ _=>aal (af t.S t.i >= 0) 15 (λ h2=>?_) λ h2=>?_
 ·refine aj 15 [.own 0,.nw] [bx ((af t.S t.i)+2)] λ _=>aah (ay ((af t.S t.i)+2) hM (au 0))<|ae 2 [] λ _=>aal (M.get ((af t.S t.i)+2)=0) 24 (λ h3=>?_) λ h3=>?_
  ·refine aj 6 [.own 0,.nw] [bx ((af t.S t.i)+3)] λ _=>aah (ay ((af t.S t.i)+3) hM (au 0))<|ae 4 [] λ _=>aal (M.get ((af t.S t.i)+3)=0) 33 (λ h4=>?_) λ h4=>?_
   ·refine aj 8 [.own 0,.nw] [bx ((af t.S t.i)+7)] λ _=>aah (ay ((af t.S t.i)+7) hM (au 0))<|aj 13 [.own 0,.nw] [bx ((af t.S t.i)+7)] λ _=>aai [] [0] (ai ((af t.S t.i)+7) (if 1000<i64.wrap ((M.get ((af t.S t.i)+7))+1) then 1000 else i64.wrap ((M.get ((af t.S t.i)+7))+1)) hM) ?_;rintro _ T5 R1;refine ae 4 [] λ _=>aak [] []<|ag [] [0,5,1,6,2,7,3,8,4,9,10,11] (aab 2)<|aad<|ae 1 [] λ _=>aal (i64.wrap (t.i+1)<(t.S.nb:Int)) 62 (λ h7=>?_) λ h7=>?_
    ·refine ae 2 [] λ _=>aak [11] []<|ag [] [0,4,1,5,2,6,3,7,8,9,10] (aab 2)<|aae 11 (aaf [] [] [0] (ai 2 (i64.wrap (t.i+1)) R1) ?_);rintro _ T8 U6;refine aad<|ae 1 [] λ _=>aap [] [0] [0] (v:=.tuple #[]) (H':=(ap [(tb,.lit (Stp.l t mb) 238 (0,0))] [T8])) ?_;refine⟨T8,by simp only[fN,Stp.l,if_pos h2,if_pos h3,if_pos h4,if_pos h7],?_⟩;have e:(du t M)=((M.set ((af t.S t.i)+7) (if 1000<i64.wrap ((M.get ((af t.S t.i)+7))+1) then 1000 else i64.wrap ((M.get ((af t.S t.i)+7))+1))).set 2 (i64.wrap (t.i+1))):=by
      simp only[du,fO,f9,if_pos h2,if_pos h3,if_pos h4,if_pos h7]
     rw[e];exact U6.weak (by omega)
    ·refine ae 12 [.own 0] λ _=>aak [12] []<|ag [] [0,4,1,5,2,6,3,7,10,11] (aab 2)<|aac [] 8 (λ X_=>(ay 0 R1 (aK 0)))<|ag [] [9] []<|aae 12 (aaf [] [] [0] (ai 0 (i64.wrap (((M.set ((af t.S t.i)+7) (if 1000<i64.wrap ((M.get ((af t.S t.i)+7))+1) then 1000 else i64.wrap ((M.get ((af t.S t.i)+7))+1))).get 0)+1)) R1) ?_);rintro _ SX R3;refine aad<|ae 7 [] λ _=>aan (σ:=Nat × HL) (λ ⟨n,T_⟩=>⟨[(0,vP tb 0),(4,vI ((n+1:Nat):Int))],[(tb,.lit [.iface 113 (vP mb 0),vI t.S.players,vS t.S.bb (t.S.bo*9) t.S.nb t.S.bc,vI t.S.box.x0,vI t.S.box.y0,vI t.S.box.x1,vI t.S.box.y1,.slice t.S.rA t.S.rn t.S.rc,.slice t.S.dA t.S.dn t.S.dc,vI t.S.fog,vI t.S.g.x,vI t.S.g.y,vI t.S.push,vI t.S.drag,vI t.S.rest,vI t.S.rounds,vI t.S.fuel,.slice t.cA t.cn t.cc,vI t.e0,vI t.e1,vI t.e2,vI t.version,vS t.ib (t.io*3) t.ni t.ic,vI t.i,vI t.j,.bool true,vI t.f0,vI t.f1,vI t.f2,vI t.f3,.bool t.emitted] 238 (0,0))],[T_],n <= 10 /\ MemH mb (cE ((M.set ((af t.S t.i)+7) (if 1000<i64.wrap ((M.get ((af t.S t.i)+7))+1) then 1000 else i64.wrap ((M.get ((af t.S t.i)+7))+1))).set 0 (i64.wrap (((M.set ((af t.S t.i)+7) (if 1000<i64.wrap ((M.get ((af t.S t.i)+7))+1) then 1000 else i64.wrap ((M.get ((af t.S t.i)+7))+1))).get 0)+1))) n) (k+10-n) T_,10-n⟩) (0,SX) [0] [0] (⟨by omega,R3.weak (by omega)⟩) ?_;rintro⟨n,T_⟩ ⟨ZN,TT⟩ Vu;refine ae 7 [] λ _=>aal (((n+1:Nat):Int) <= 10) 92 (λ Ty=>?_) λ Ty=>?_
     ·obtain⟨e_,SJ⟩:∃e,k+10-n=e+1:=⟨k+9-n,by omega⟩;have Uv:MemH mb (cE ((M.set ((af t.S t.i)+7) (if 1000<i64.wrap ((M.get ((af t.S t.i)+7))+1) then 1000 else i64.wrap ((M.get ((af t.S t.i)+7))+1))).set 0 (i64.wrap (((M.set ((af t.S t.i)+7) (if 1000<i64.wrap ((M.get ((af t.S t.i)+7))+1) then 1000 else i64.wrap ((M.get ((af t.S t.i)+7))+1))).get 0)+1))) n) (e_+1) T_:=SJ ▸ TT;refine ae 11 [.own 0] λ _=>aai [] [0] (ai ((n+1:Nat):Int) 0 Uv) ?_;rintro _ Sy SP;refine aj 8 [.nw] [bx (((n+1:Nat):Int)+1)] λ _=>?_;refine Vu (n+1,Sy) [0] [0] ?_
      try dsimp only
      refine⟨⟨by omega,SP.cast (by rw[cE]) (by omega)⟩,by omega⟩
     ·refine ae 5 [] λ _=>aap [] [0] [0] (v:=.tuple #[]) (H':=(ap [(tb,.lit [.iface 113 (vP mb 0),vI t.S.players,vS t.S.bb (t.S.bo*9) t.S.nb t.S.bc,vI t.S.box.x0,vI t.S.box.y0,vI t.S.box.x1,vI t.S.box.y1,.slice t.S.rA t.S.rn t.S.rc,.slice t.S.dA t.S.dn t.S.dc,vI t.S.fog,vI t.S.g.x,vI t.S.g.y,vI t.S.push,vI t.S.drag,vI t.S.rest,vI t.S.rounds,vI t.S.fuel,.slice t.cA t.cn t.cc,vI t.e0,vI t.e1,vI t.e2,vI t.version,vS t.ib (t.io*3) t.ni t.ic,vI t.i,vI t.j,.bool true,vI t.f0,vI t.f1,vI t.f2,vI t.f3,.bool t.emitted] 238 (0,0))] [T_])) ?_;refine⟨T_,by simp only[fN,Stp.l,if_pos h2,if_pos h3,if_pos h4,if_neg h7,if_neg Ty],?_⟩;have en:n=10:=by omega
      have e:(du t M)=(cE ((M.set ((af t.S t.i)+7) (if 1000<i64.wrap ((M.get ((af t.S t.i)+7))+1) then 1000 else i64.wrap ((M.get ((af t.S t.i)+7))+1))).set 0 (i64.wrap (((M.set ((af t.S t.i)+7) (if 1000<i64.wrap ((M.get ((af t.S t.i)+7))+1) then 1000 else i64.wrap ((M.get ((af t.S t.i)+7))+1))).get 0)+1))) n):=by
       rw[en];simp only[du,fO,f9,if_pos h2,if_pos h3,if_pos h4,if_neg h7,if_neg Ty]
      rw[e];exact TT.weak (by omega)
   ·refine aj 11 [.own 0,.nw] [bx ((af t.S t.i)+7)] λ _=>aai [] [0] (ai ((af t.S t.i)+7) 0 hM) ?_;rintro _ Sx RE;refine ae 4 [] λ _=>aak [] []<|ag [] [0,5,1,6,2,7,3,8,4,9,10,11] (aab 2)<|aad<|ae 1 [] λ _=>aal (i64.wrap (t.i+1)<(t.S.nb:Int)) 62 (λ Xy=>?_) λ Xy=>?_
    ·refine ae 2 [] λ _=>aak [11] []<|ag [] [0,4,1,5,2,6,3,7,8,9,10] (aab 2)<|aae 11 (aaf [] [] [0] (ai 2 (i64.wrap (t.i+1)) RE) ?_);rintro _ UP Wj;refine aad<|ae 1 [] λ _=>aap [] [0] [0] (v:=.tuple #[]) (H':=(ap [(tb,.lit (Stp.l t mb) 238 (0,0))] [UP])) ?_;refine⟨UP,by simp only[fN,Stp.l,if_pos h2,if_pos h3,if_neg h4,if_pos Xy],?_⟩;have e:(du t M)=((M.set ((af t.S t.i)+7) 0).set 2 (i64.wrap (t.i+1))):=by
      simp only[du,fO,f9,if_pos h2,if_pos h3,if_neg h4,if_pos Xy]
     rw[e];exact Wj.weak (by omega)
    ·refine ae 12 [.own 0] λ _=>aak [12] []<|ag [] [0,4,1,5,2,6,3,7,10,11] (aab 2)<|aac [] 8 (λ X_=>(ay 0 RE (aK 0)))<|ag [] [9] []<|aae 12 (aaf [] [] [0] (ai 0 (i64.wrap (((M.set ((af t.S t.i)+7) 0).get 0)+1)) RE) ?_);rintro _ Vp Wi;refine aad<|ae 7 [] λ _=>aan (σ:=Nat × HL) (λ ⟨n,T_⟩=>⟨[(0,vP tb 0),(4,vI ((n+1:Nat):Int))],[(tb,.lit [.iface 113 (vP mb 0),vI t.S.players,vS t.S.bb (t.S.bo*9) t.S.nb t.S.bc,vI t.S.box.x0,vI t.S.box.y0,vI t.S.box.x1,vI t.S.box.y1,.slice t.S.rA t.S.rn t.S.rc,.slice t.S.dA t.S.dn t.S.dc,vI t.S.fog,vI t.S.g.x,vI t.S.g.y,vI t.S.push,vI t.S.drag,vI t.S.rest,vI t.S.rounds,vI t.S.fuel,.slice t.cA t.cn t.cc,vI t.e0,vI t.e1,vI t.e2,vI t.version,vS t.ib (t.io*3) t.ni t.ic,vI t.i,vI t.j,.bool true,vI t.f0,vI t.f1,vI t.f2,vI t.f3,.bool t.emitted] 238 (0,0))],[T_],n <= 10 /\ MemH mb (cE ((M.set ((af t.S t.i)+7) 0).set 0 (i64.wrap (((M.set ((af t.S t.i)+7) 0).get 0)+1))) n) (k+10-n) T_,10-n⟩) (0,Vp) [0] [0] (⟨by omega,Wi.weak (by omega)⟩) ?_;rintro⟨n,T_⟩ ⟨ZN,TT⟩ adE;refine ae 7 [] λ _=>aal (((n+1:Nat):Int) <= 10) 92 (λ Sc=>?_) λ Sc=>?_
     ·obtain⟨e_,SJ⟩:∃e,k+10-n=e+1:=⟨k+9-n,by omega⟩;have Uv:MemH mb (cE ((M.set ((af t.S t.i)+7) 0).set 0 (i64.wrap (((M.set ((af t.S t.i)+7) 0).get 0)+1))) n) (e_+1) T_:=SJ ▸ TT;refine ae 11 [.own 0] λ _=>aai [] [0] (ai ((n+1:Nat):Int) 0 Uv) ?_;rintro _ UC SO;refine aj 8 [.nw] [bx (((n+1:Nat):Int)+1)] λ _=>?_;refine adE (n+1,UC) [0] [0] ?_
      try dsimp only
      refine⟨⟨by omega,SO.cast (by rw[cE]) (by omega)⟩,by omega⟩
     ·refine ae 5 [] λ _=>aap [] [0] [0] (v:=.tuple #[]) (H':=(ap [(tb,.lit [.iface 113 (vP mb 0),vI t.S.players,vS t.S.bb (t.S.bo*9) t.S.nb t.S.bc,vI t.S.box.x0,vI t.S.box.y0,vI t.S.box.x1,vI t.S.box.y1,.slice t.S.rA t.S.rn t.S.rc,.slice t.S.dA t.S.dn t.S.dc,vI t.S.fog,vI t.S.g.x,vI t.S.g.y,vI t.S.push,vI t.S.drag,vI t.S.rest,vI t.S.rounds,vI t.S.fuel,.slice t.cA t.cn t.cc,vI t.e0,vI t.e1,vI t.e2,vI t.version,vS t.ib (t.io*3) t.ni t.ic,vI t.i,vI t.j,.bool true,vI t.f0,vI t.f1,vI t.f2,vI t.f3,.bool t.emitted] 238 (0,0))] [T_])) ?_;refine⟨T_,by simp only[fN,Stp.l,if_pos h2,if_pos h3,if_neg h4,if_neg Xy,if_neg Sc],?_⟩;have en:n=10:=by omega
      have e:(du t M)=(cE ((M.set ((af t.S t.i)+7) 0).set 0 (i64.wrap (((M.set ((af t.S t.i)+7) 0).get 0)+1))) n):=by
       rw[en];simp only[du,fO,f9,if_pos h2,if_pos h3,if_neg h4,if_neg Xy,if_neg Sc]
      rw[e];exact TT.weak (by omega)
  ·refine aj 22 [.own 0,.nw] [bx ((af t.S t.i)+7)] λ _=>aai [] [0] (ai ((af t.S t.i)+7) 0 hM) ?_;rintro _ XA SM;refine ae 4 [] λ _=>aak [] []<|ag [] [0,5,1,6,2,7,3,8,4,9,10,11] (aab 2)<|aad<|ae 1 [] λ _=>aal (i64.wrap (t.i+1)<(t.S.nb:Int)) 62 (λ UA=>?_) λ UA=>?_
   ·refine ae 2 [] λ _=>aak [11] []<|ag [] [0,4,1,5,2,6,3,7,8,9,10] (aab 2)<|aae 11 (aaf [] [] [0] (ai 2 (i64.wrap (t.i+1)) SM) ?_);rintro _ Wv U7;refine aad<|ae 1 [] λ _=>aap [] [0] [0] (v:=.tuple #[]) (H':=(ap [(tb,.lit (Stp.l t mb) 238 (0,0))] [Wv])) ?_;refine⟨Wv,by simp only[fN,Stp.l,if_pos h2,if_neg h3,if_pos UA],?_⟩;have e:(du t M)=((M.set ((af t.S t.i)+7) 0).set 2 (i64.wrap (t.i+1))):=by
     simp only[du,fO,f9,if_pos h2,if_neg h3,if_pos UA]
    rw[e];exact U7.weak (by omega)
   ·refine ae 12 [.own 0] λ _=>aak [12] []<|ag [] [0,4,1,5,2,6,3,7,10,11] (aab 2)<|aac [] 8 (λ X_=>(ay 0 SM (aK 0)))<|ag [] [9] []<|aae 12 (aaf [] [] [0] (ai 0 (i64.wrap (((M.set ((af t.S t.i)+7) 0).get 0)+1)) SM) ?_);rintro _ ZB Xo;refine aad<|ae 7 [] λ _=>aan (σ:=Nat × HL) (λ ⟨n,T_⟩=>⟨[(0,vP tb 0),(4,vI ((n+1:Nat):Int))],[(tb,.lit [.iface 113 (vP mb 0),vI t.S.players,vS t.S.bb (t.S.bo*9) t.S.nb t.S.bc,vI t.S.box.x0,vI t.S.box.y0,vI t.S.box.x1,vI t.S.box.y1,.slice t.S.rA t.S.rn t.S.rc,.slice t.S.dA t.S.dn t.S.dc,vI t.S.fog,vI t.S.g.x,vI t.S.g.y,vI t.S.push,vI t.S.drag,vI t.S.rest,vI t.S.rounds,vI t.S.fuel,.slice t.cA t.cn t.cc,vI t.e0,vI t.e1,vI t.e2,vI t.version,vS t.ib (t.io*3) t.ni t.ic,vI t.i,vI t.j,.bool true,vI t.f0,vI t.f1,vI t.f2,vI t.f3,.bool t.emitted] 238 (0,0))],[T_],n <= 10 /\ MemH mb (cE ((M.set ((af t.S t.i)+7) 0).set 0 (i64.wrap (((M.set ((af t.S t.i)+7) 0).get 0)+1))) n) (k+10-n) T_,10-n⟩) (0,ZB) [0] [0] (⟨by omega,Xo.weak (by omega)⟩) ?_;rintro⟨n,T_⟩ ⟨ZN,TT⟩ adD;refine ae 7 [] λ _=>aal (((n+1:Nat):Int) <= 10) 92 (λ h38=>?_) λ h38=>?_
    ·obtain⟨e_,SJ⟩:∃e,k+10-n=e+1:=⟨k+9-n,by omega⟩;have Uv:MemH mb (cE ((M.set ((af t.S t.i)+7) 0).set 0 (i64.wrap (((M.set ((af t.S t.i)+7) 0).get 0)+1))) n) (e_+1) T_:=SJ ▸ TT;refine ae 11 [.own 0] λ _=>aai [] [0] (ai ((n+1:Nat):Int) 0 Uv) ?_;rintro _ Xz Th;refine aj 8 [.nw] [bx (((n+1:Nat):Int)+1)] λ _=>?_;refine adD (n+1,Xz) [0] [0] ?_
     try dsimp only
     refine⟨⟨by omega,Th.cast (by rw[cE]) (by omega)⟩,by omega⟩
    ·refine ae 5 [] λ _=>aap [] [0] [0] (v:=.tuple #[]) (H':=(ap [(tb,.lit [.iface 113 (vP mb 0),vI t.S.players,vS t.S.bb (t.S.bo*9) t.S.nb t.S.bc,vI t.S.box.x0,vI t.S.box.y0,vI t.S.box.x1,vI t.S.box.y1,.slice t.S.rA t.S.rn t.S.rc,.slice t.S.dA t.S.dn t.S.dc,vI t.S.fog,vI t.S.g.x,vI t.S.g.y,vI t.S.push,vI t.S.drag,vI t.S.rest,vI t.S.rounds,vI t.S.fuel,.slice t.cA t.cn t.cc,vI t.e0,vI t.e1,vI t.e2,vI t.version,vS t.ib (t.io*3) t.ni t.ic,vI t.i,vI t.j,.bool true,vI t.f0,vI t.f1,vI t.f2,vI t.f3,.bool t.emitted] 238 (0,0))] [T_])) ?_;refine⟨T_,by simp only[fN,Stp.l,if_pos h2,if_neg h3,if_neg UA,if_neg h38],?_⟩;have en:n=10:=by omega
     have e:(du t M)=(cE ((M.set ((af t.S t.i)+7) 0).set 0 (i64.wrap (((M.set ((af t.S t.i)+7) 0).get 0)+1))) n):=by
      rw[en];simp only[du,fO,f9,if_pos h2,if_neg h3,if_neg UA,if_neg h38]
     rw[e];exact TT.weak (by omega)
 ·refine ae 5 [] λ _=>aak [] []<|ag [] [0,5,1,6,2,7,3,8,4,9,10,11] (aab 2)<|aad<|ae 1 [] λ _=>aal (i64.wrap (t.i+1)<(t.S.nb:Int)) 62 (λ Sb=>?_) λ Sb=>?_
  ·refine ae 2 [] λ _=>aak [11] []<|ag [] [0,4,1,5,2,6,3,7,8,9,10] (aab 2)<|aae 11 (aaf [] [] [0] (ai 2 (i64.wrap (t.i+1)) hM) ?_);rintro _ X8 Wd;refine aad<|ae 1 [] λ _=>aap [] [0] [0] (v:=.tuple #[]) (H':=(ap [(tb,.lit (Stp.l t mb) 238 (0,0))] [X8])) ?_;refine⟨X8,by simp only[fN,Stp.l,if_neg h2,if_pos Sb],?_⟩;have e:(du t M)=(M.set 2 (i64.wrap (t.i+1))):=by
    simp only[du,fO,f9,if_neg h2,if_pos Sb]
   rw[e];exact Wd.weak (by omega)
  ·refine ae 12 [.own 0] λ _=>aak [12] []<|ag [] [0,4,1,5,2,6,3,7,10,11] (aab 2)<|aac [] 8 (λ X_=>(ay 0 hM (aK 0)))<|ag [] [9] []<|aae 12 (aaf [] [] [0] (ai 0 (i64.wrap ((M.get 0)+1)) hM) ?_);rintro _ T44 Wc;refine aad<|ae 7 [] λ _=>aan (σ:=Nat × HL) (λ ⟨n,T_⟩=>⟨[(0,vP tb 0),(4,vI ((n+1:Nat):Int))],[(tb,.lit [.iface 113 (vP mb 0),vI t.S.players,vS t.S.bb (t.S.bo*9) t.S.nb t.S.bc,vI t.S.box.x0,vI t.S.box.y0,vI t.S.box.x1,vI t.S.box.y1,.slice t.S.rA t.S.rn t.S.rc,.slice t.S.dA t.S.dn t.S.dc,vI t.S.fog,vI t.S.g.x,vI t.S.g.y,vI t.S.push,vI t.S.drag,vI t.S.rest,vI t.S.rounds,vI t.S.fuel,.slice t.cA t.cn t.cc,vI t.e0,vI t.e1,vI t.e2,vI t.version,vS t.ib (t.io*3) t.ni t.ic,vI t.i,vI t.j,.bool true,vI t.f0,vI t.f1,vI t.f2,vI t.f3,.bool t.emitted] 238 (0,0))],[T_],n <= 10 /\ MemH mb (cE (M.set 0 (i64.wrap ((M.get 0)+1))) n) (k+10-n) T_,10-n⟩) (0,T44) [0] [0] (⟨by omega,Wc.weak (by omega)⟩) ?_;rintro⟨n,T_⟩ ⟨ZN,TT⟩ adC;refine ae 7 [] λ _=>aal (((n+1:Nat):Int) <= 10) 92 (λ Vb=>?_) λ Vb=>?_
   ·obtain⟨e_,SJ⟩:∃e,k+10-n=e+1:=⟨k+9-n,by omega⟩;have Uv:MemH mb (cE (M.set 0 (i64.wrap ((M.get 0)+1))) n) (e_+1) T_:=SJ ▸ TT;refine ae 11 [.own 0] λ _=>aai [] [0] (ai ((n+1:Nat):Int) 0 Uv) ?_;rintro _ Wu Tf;refine aj 8 [.nw] [bx (((n+1:Nat):Int)+1)] λ _=>?_;refine adC (n+1,Wu) [0] [0] ?_
    try dsimp only
    refine⟨⟨by omega,Tf.cast (by rw[cE]) (by omega)⟩,by omega⟩
   ·refine ae 5 [] λ _=>aap [] [0] [0] (v:=.tuple #[]) (H':=(ap [(tb,.lit [.iface 113 (vP mb 0),vI t.S.players,vS t.S.bb (t.S.bo*9) t.S.nb t.S.bc,vI t.S.box.x0,vI t.S.box.y0,vI t.S.box.x1,vI t.S.box.y1,.slice t.S.rA t.S.rn t.S.rc,.slice t.S.dA t.S.dn t.S.dc,vI t.S.fog,vI t.S.g.x,vI t.S.g.y,vI t.S.push,vI t.S.drag,vI t.S.rest,vI t.S.rounds,vI t.S.fuel,.slice t.cA t.cn t.cc,vI t.e0,vI t.e1,vI t.e2,vI t.version,vS t.ib (t.io*3) t.ni t.ic,vI t.i,vI t.j,.bool true,vI t.f0,vI t.f1,vI t.f2,vI t.f3,.bool t.emitted] 238 (0,0))] [T_])) ?_;refine⟨T_,by simp only[fN,Stp.l,if_neg h2,if_neg Sb,if_neg Vb],?_⟩;have en:n=10:=by omega
    have e:(du t M)=(cE (M.set 0 (i64.wrap ((M.get 0)+1))) n):=by
     rw[en];simp only[du,fO,f9,if_neg h2,if_neg Sb,if_neg Vb]
    rw[e];exact TT.weak (by omega)
structure Gm where
 S:Setup
 cA:Option Addr
 cn:Nat
 cc:Nat
 e0:Int
 e1:Int
 e2:Int
 version:Int
 ib:Nat
 io:Nat
 ni:Nat
 ic:Nat
 iR:Nat
 ins:List Inp
 code:List Ins
abbrev Gm.step(g:Gm)(M:MemS):Stp:=⟨g.S,g.cA,g.cn,g.cc,g.e0,g.e1,g.e2,g.version,g.ib,g.io,g.ni,g.ic,g.iR,g.ins,M.get 2,M.get 3,false,0,0,0,0,false,g.code⟩
theorem M3(g:Gm)(mb:Nat)(M:MemS)(k:Nat)(T F:HL)(hM:MemH mb M (k+20) T)(hS:SetIn F g.S)(hp:M.get 1=0)(hI:(g.ib,.rows 3 g.iR (kK g.ins) 40 (0,0))∈F)(hir:g.io+g.ni <= g.iR /\ g.ni <= 1000000):Sp Tryz.prog 107 #[.iface 113 (vP mb 0),.agg #[vI g.S.players,vS g.S.bb (g.S.bo*9) g.S.nb g.S.bc,vI g.S.box.x0,vI g.S.box.y0,vI g.S.box.x1,vI g.S.box.y1,.slice g.S.rA g.S.rn g.S.rc,.slice g.S.dA g.S.dn g.S.dc,vI g.S.fog,vI g.S.g.x,vI g.S.g.y,vI g.S.push,vI g.S.drag,vI g.S.rest,vI g.S.rounds,vI g.S.fuel],.agg #[.slice g.cA g.cn g.cc,vI g.e0,vI g.e1,vI g.e2],vI g.version,vS g.ib (g.io*3) g.ni g.ic] (ap [] [T]) F (λ u H'=>∃x,H'=ap [] [x] /\ (MemH mb (aR (g.step M) M) k x /\ u=.tuple #[.bool false,.agg #[vI 0,vI 0,vI 0,vI 0],.bool false])):=by
 refine aat Tryz.func107 rfl mn (A:=[]) (Ts:=[T]) rfl λ w0=>?_;refine ae 29 (ow 0 8) λ n1=>aah (jo 1 hp hM (au 0))<|ae 18 [] λ _=>aak [] []<|ag [] [0,1,2,3,4,5,7] (ow 3 16++[.own 2,.own 2,.own 2,.own 2])<|aac [] 6 (λ X_=>(ay 2 hM (aK 0)))<|aac [] 8 (λ X_=>(ay 3 hM (aK 0)))<|ag [] [9] []<|aae 10 (aag [] [] λ n2=>?_);refine ag [] [11] []<|aad<|ae 7 [.own 1] λ _=>aai [0] [0] (Df (g.step M) (n2+0) mb M (k+12) T _ hM hS.up (aav _ hI) hir) ?_;rintro _ T3 IF;refine ae 3 [] λ _=>aak [13] [0,1,3,4]<|ag [0,1,3,4] [0,4,8,1,5,9,2,6,10,3,7,11,12] (ow 0 5++[.ro 0])<|aae 13 (aag [0,1,3,4] [.own 2,.own 2,.own 2,.own 2] λ _=>?_);refine ag [0,1,3,4] [14] []<|aad<|ae 1 [] λ _=>aap [.own 2,.own 2,.own 2,.own 2] [] [0] (v:=.tuple #[.bool false,.agg #[vI 0,vI 0,vI 0,vI 0],.bool false]) (H':=(ap [] [T3])) ?_;exact⟨T3,rfl,IF.weak (by omega),rfl⟩
theorem M4(g:Gm)(mb:Nat)(M:MemS)(k:Nat)(T F:HL)(hM:MemH mb M (k+20) T)(hS:SetIn F g.S)(hp:M.get 1=1)(hE:cG F)(hC:CodeIn F g.code g.cA g.cn):Sp Tryz.prog 107 #[.iface 113 (vP mb 0),.agg #[vI g.S.players,vS g.S.bb (g.S.bo*9) g.S.nb g.S.bc,vI g.S.box.x0,vI g.S.box.y0,vI g.S.box.x1,vI g.S.box.y1,.slice g.S.rA g.S.rn g.S.rc,.slice g.S.dA g.S.dn g.S.dc,vI g.S.fog,vI g.S.g.x,vI g.S.g.y,vI g.S.push,vI g.S.drag,vI g.S.rest,vI g.S.rounds,vI g.S.fuel],.agg #[.slice g.cA g.cn g.cc,vI g.e0,vI g.e1,vI g.e2],vI g.version,vS g.ib (g.io*3) g.ni g.ic] (ap [] [T]) F (λ u H'=>∃x,H'=ap [] [x] /\ (MemH mb (eX (g.step M) M).M k x /\ u=.tuple #[.bool false,.agg (aaa (eX (g.step M) M).e).toArray,.bool ((eX (g.step M) M).em)])):=by
 refine aat Tryz.func107 rfl mn (A:=[]) (Ts:=[T]) rfl λ w0=>?_;refine ae 29 (ow 0 8) λ n1=>aah (jo 1 hp hM (au 0))<|ae 18 [] λ _=>aak [] []<|ag [] [0,1,2,3,4,5,7] (ow 3 16++[.own 2,.own 2,.own 2,.own 2])<|aac [] 6 (λ X_=>(ay 2 hM (aK 0)))<|aac [] 8 (λ X_=>(ay 3 hM (aK 0)))<|ag [] [9] []<|aae 10 (aag [] [] λ n2=>?_);refine ag [] [11] []<|aad<|ae 7 [.own 1] λ _=>aai [0] [0] (Pf (g.step M) (n2+0) mb M (k+11) T _ hM hS.up (az hE) hC.up) ?_;rintro _ T3 IF;refine ae 3 [] λ _=>aak [13] [0,1,3,4]<|ag [0,1,3,4] [0,4,8,1,5,9,2,6,10,3,7,11,12] (ow 0 5++[.ro 0])<|aae 13 (aag [0,1,3,4] [.own 2,.own 2,.own 2,.own 2] λ _=>?_);refine ag [0,1,3,4] [14] []<|aad<|ae 1 [] λ _=>aap [.own 2,.own 2,.own 2,.own 2] [] [0] (v:=.tuple #[.bool false,.agg (aaa (eX (g.step M) M).e).toArray,.bool ((eX (g.step M) M).em)]) (H':=(ap [] [T3])) ?_;exact⟨T3,rfl,IF.weak (by omega),rfl⟩
theorem M5(g:Gm)(mb:Nat)(M:MemS)(k:Nat)(T F:HL)(hM:MemH mb M (k+20) T)(hS:SetIn F g.S)(hp:M.get 1=2)(hE:cG F)(hC:CodeIn F g.code g.cA g.cn):Sp Tryz.prog 107 #[.iface 113 (vP mb 0),.agg #[vI g.S.players,vS g.S.bb (g.S.bo*9) g.S.nb g.S.bc,vI g.S.box.x0,vI g.S.box.y0,vI g.S.box.x1,vI g.S.box.y1,.slice g.S.rA g.S.rn g.S.rc,.slice g.S.dA g.S.dn g.S.dc,vI g.S.fog,vI g.S.g.x,vI g.S.g.y,vI g.S.push,vI g.S.drag,vI g.S.rest,vI g.S.rounds,vI g.S.fuel],.agg #[.slice g.cA g.cn g.cc,vI g.e0,vI g.e1,vI g.e2],vI g.version,vS g.ib (g.io*3) g.ni g.ic] (ap [] [T]) F (λ u H'=>∃x,H'=ap [] [x] /\ (MemH mb (cT (g.step M) M).M k x /\ u=.tuple #[.bool false,.agg (aaa (cT (g.step M) M).e).toArray,.bool ((cT (g.step M) M).em)])):=by
 refine aat Tryz.func107 rfl mn (A:=[]) (Ts:=[T]) rfl λ w0=>?_;refine ae 29 (ow 0 8) λ n1=>aah (jo 1 hp hM (au 0))<|ae 18 [] λ _=>aak [] []<|ag [] [0,1,2,3,4,5,7] (ow 3 16++[.own 2,.own 2,.own 2,.own 2])<|aac [] 6 (λ X_=>(ay 2 hM (aK 0)))<|aac [] 8 (λ X_=>(ay 3 hM (aK 0)))<|ag [] [9] []<|aae 10 (aag [] [] λ n2=>?_);refine ag [] [11] []<|aad<|ae 7 [.own 1] λ _=>aai [0] [0] (MZ (g.step M) (n2+0) mb M (k+11) T _ hM hS.up (az hE) hC.up) ?_;rintro _ T3 IF;refine ae 3 [] λ _=>aak [13] [0,1,3,4]<|ag [0,1,3,4] [0,4,8,1,5,9,2,6,10,3,7,11,12] (ow 0 5++[.ro 0])<|aae 13 (aag [0,1,3,4] [.own 2,.own 2,.own 2,.own 2] λ _=>?_);refine ag [0,1,3,4] [14] []<|aad<|ae 1 [] λ _=>aap [.own 2,.own 2,.own 2,.own 2] [] [0] (v:=.tuple #[.bool false,.agg (aaa (cT (g.step M) M).e).toArray,.bool ((cT (g.step M) M).em)]) (H':=(ap [] [T3])) ?_;exact⟨T3,rfl,IF.weak (by omega),rfl⟩
theorem M6(g:Gm)(mb:Nat)(M:MemS)(k:Nat)(T F:HL)(hM:MemH mb M (k+20) T)(hS:SetIn F g.S)(hp:M.get 1=3) :Sp Tryz.prog 107 #[.iface 113 (vP mb 0),.agg #[vI g.S.players,vS g.S.bb (g.S.bo*9) g.S.nb g.S.bc,vI g.S.box.x0,vI g.S.box.y0,vI g.S.box.x1,vI g.S.box.y1,.slice g.S.rA g.S.rn g.S.rc,.slice g.S.dA g.S.dn g.S.dc,vI g.S.fog,vI g.S.g.x,vI g.S.g.y,vI g.S.push,vI g.S.drag,vI g.S.rest,vI g.S.rounds,vI g.S.fuel],.agg #[.slice g.cA g.cn g.cc,vI g.e0,vI g.e1,vI g.e2],vI g.version,vS g.ib (g.io*3) g.ni g.ic] (ap [] [T]) F (λ u H'=>∃x,H'=ap [] [x] /\ (MemH mb (aS (g.step M) M) k x /\ u=.tuple #[.bool false,.agg #[vI 0,vI 0,vI 0,vI 0],.bool false])):=by
 refine aat Tryz.func107 rfl mn (A:=[]) (Ts:=[T]) rfl λ w0=>?_;refine ae 29 (ow 0 8) λ n1=>aah (jo 1 hp hM (au 0))<|ae 18 [] λ _=>aak [] []<|ag [] [0,1,2,3,4,5,7] (ow 3 16++[.own 2,.own 2,.own 2,.own 2])<|aac [] 6 (λ X_=>(ay 2 hM (aK 0)))<|aac [] 8 (λ X_=>(ay 3 hM (aK 0)))<|ag [] [9] []<|aae 10 (aag [] [] λ n2=>?_);refine ag [] [11] []<|aad<|ae 7 [.own 1] λ _=>aai [0] [0] (Dg (g.step M) (n2+0) mb M (k+12) T _ hM hS.up ) ?_;rintro _ T3 IF;refine ae 3 [] λ _=>aak [13] [0,1,3,4]<|ag [0,1,3,4] [0,4,8,1,5,9,2,6,10,3,7,11,12] (ow 0 5++[.ro 0])<|aae 13 (aag [0,1,3,4] [.own 2,.own 2,.own 2,.own 2] λ _=>?_);refine ag [0,1,3,4] [14] []<|aad<|ae 1 [] λ _=>aap [.own 2,.own 2,.own 2,.own 2] [] [0] (v:=.tuple #[.bool false,.agg #[vI 0,vI 0,vI 0,vI 0],.bool false]) (H':=(ap [] [T3])) ?_;exact⟨T3,rfl,IF.weak (by omega),rfl⟩
theorem M7(g:Gm)(mb:Nat)(M:MemS)(k:Nat)(T F:HL)(hM:MemH mb M (k+20) T)(hS:SetIn F g.S)(hp:M.get 1=4) :Sp Tryz.prog 107 #[.iface 113 (vP mb 0),.agg #[vI g.S.players,vS g.S.bb (g.S.bo*9) g.S.nb g.S.bc,vI g.S.box.x0,vI g.S.box.y0,vI g.S.box.x1,vI g.S.box.y1,.slice g.S.rA g.S.rn g.S.rc,.slice g.S.dA g.S.dn g.S.dc,vI g.S.fog,vI g.S.g.x,vI g.S.g.y,vI g.S.push,vI g.S.drag,vI g.S.rest,vI g.S.rounds,vI g.S.fuel],.agg #[.slice g.cA g.cn g.cc,vI g.e0,vI g.e1,vI g.e2],vI g.version,vS g.ib (g.io*3) g.ni g.ic] (ap [] [T]) F (λ u H'=>∃x,H'=ap [] [x] /\ (MemH mb (bI (g.step M) M) k x /\ u=.tuple #[.bool false,.agg #[vI 0,vI 0,vI 0,vI 0],.bool false])):=by
 refine aat Tryz.func107 rfl mn (A:=[]) (Ts:=[T]) rfl λ w0=>?_;refine ae 29 (ow 0 8) λ n1=>aah (jo 1 hp hM (au 0))<|ae 18 [] λ _=>aak [] []<|ag [] [0,1,2,3,4,5,7] (ow 3 16++[.own 2,.own 2,.own 2,.own 2])<|aac [] 6 (λ X_=>(ay 2 hM (aK 0)))<|aac [] 8 (λ X_=>(ay 3 hM (aK 0)))<|ag [] [9] []<|aae 10 (aag [] [] λ n2=>?_);refine ag [] [11] []<|aad<|ae 7 [.own 1] λ _=>aai [0] [0] (uL (g.step M) (n2+0) mb M (k+6) T _ hM hS.up ) ?_;rintro _ T3 IF;refine ae 3 [] λ _=>aak [13] [0,1,3,4]<|ag [0,1,3,4] [0,4,8,1,5,9,2,6,10,3,7,11,12] (ow 0 5++[.ro 0])<|aae 13 (aag [0,1,3,4] [.own 2,.own 2,.own 2,.own 2] λ _=>?_);refine ag [0,1,3,4] [14] []<|aad<|ae 1 [] λ _=>aap [.own 2,.own 2,.own 2,.own 2] [] [0] (v:=.tuple #[.bool false,.agg #[vI 0,vI 0,vI 0,vI 0],.bool false]) (H':=(ap [] [T3])) ?_;exact⟨T3,rfl,IF.weak (by omega),rfl⟩
theorem M8(g:Gm)(mb:Nat)(M:MemS)(k:Nat)(T F:HL)(hM:MemH mb M (k+20) T)(hS:SetIn F g.S)(hp:M.get 1=5) :Sp Tryz.prog 107 #[.iface 113 (vP mb 0),.agg #[vI g.S.players,vS g.S.bb (g.S.bo*9) g.S.nb g.S.bc,vI g.S.box.x0,vI g.S.box.y0,vI g.S.box.x1,vI g.S.box.y1,.slice g.S.rA g.S.rn g.S.rc,.slice g.S.dA g.S.dn g.S.dc,vI g.S.fog,vI g.S.g.x,vI g.S.g.y,vI g.S.push,vI g.S.drag,vI g.S.rest,vI g.S.rounds,vI g.S.fuel],.agg #[.slice g.cA g.cn g.cc,vI g.e0,vI g.e1,vI g.e2],vI g.version,vS g.ib (g.io*3) g.ni g.ic] (ap [] [T]) F (λ u H'=>∃x,H'=ap [] [x] /\ (MemH mb (dP (g.step M) M) k x /\ u=.tuple #[.bool false,.agg #[vI 0,vI 0,vI 0,vI 0],.bool false])):=by
 refine aat Tryz.func107 rfl mn (A:=[]) (Ts:=[T]) rfl λ w0=>?_;refine ae 29 (ow 0 8) λ n1=>aah (jo 1 hp hM (au 0))<|ae 18 [] λ _=>aak [] []<|ag [] [0,1,2,3,4,5,7] (ow 3 16++[.own 2,.own 2,.own 2,.own 2])<|aac [] 6 (λ X_=>(ay 2 hM (aK 0)))<|aac [] 8 (λ X_=>(ay 3 hM (aK 0)))<|ag [] [9] []<|aae 10 (aag [] [] λ n2=>?_);refine ag [] [11] []<|aad<|ae 7 [.own 1] λ _=>aai [0] [0] (Ds (g.step M) (n2+0) mb M (k+12) T _ hM hS.up ) ?_;rintro _ T3 IF;refine ae 3 [] λ _=>aak [13] [0,1,3,4]<|ag [0,1,3,4] [0,4,8,1,5,9,2,6,10,3,7,11,12] (ow 0 5++[.ro 0])<|aae 13 (aag [0,1,3,4] [.own 2,.own 2,.own 2,.own 2] λ _=>?_);refine ag [0,1,3,4] [14] []<|aad<|ae 1 [] λ _=>aap [.own 2,.own 2,.own 2,.own 2] [] [0] (v:=.tuple #[.bool false,.agg #[vI 0,vI 0,vI 0,vI 0],.bool false]) (H':=(ap [] [T3])) ?_;exact⟨T3,rfl,IF.weak (by omega),rfl⟩
theorem M9(g:Gm)(mb:Nat)(M:MemS)(k:Nat)(T F:HL)(hM:MemH mb M (k+20) T)(hS:SetIn F g.S)(hp:M.get 1=6)(hE:cG F)(hC:CodeIn F g.code g.cA g.cn):Sp Tryz.prog 107 #[.iface 113 (vP mb 0),.agg #[vI g.S.players,vS g.S.bb (g.S.bo*9) g.S.nb g.S.bc,vI g.S.box.x0,vI g.S.box.y0,vI g.S.box.x1,vI g.S.box.y1,.slice g.S.rA g.S.rn g.S.rc,.slice g.S.dA g.S.dn g.S.dc,vI g.S.fog,vI g.S.g.x,vI g.S.g.y,vI g.S.push,vI g.S.drag,vI g.S.rest,vI g.S.rounds,vI g.S.fuel],.agg #[.slice g.cA g.cn g.cc,vI g.e0,vI g.e1,vI g.e2],vI g.version,vS g.ib (g.io*3) g.ni g.ic] (ap [] [T]) F (λ u H'=>∃x,H'=ap [] [x] /\ (MemH mb (eY (g.step M) M).M k x /\ u=.tuple #[.bool false,.agg (aaa (eY (g.step M) M).e).toArray,.bool ((eY (g.step M) M).em)])):=by
 refine aat Tryz.func107 rfl mn (A:=[]) (Ts:=[T]) rfl λ w0=>?_;refine ae 29 (ow 0 8) λ n1=>aah (jo 1 hp hM (au 0))<|ae 18 [] λ _=>aak [] []<|ag [] [0,1,2,3,4,5,7] (ow 3 16++[.own 2,.own 2,.own 2,.own 2])<|aac [] 6 (λ X_=>(ay 2 hM (aK 0)))<|aac [] 8 (λ X_=>(ay 3 hM (aK 0)))<|ag [] [9] []<|aae 10 (aag [] [] λ n2=>?_);refine ag [] [11] []<|aad<|ae 7 [.own 1] λ _=>aai [0] [0] (Pg (g.step M) (n2+0) mb M (k+11) T _ hM hS.up (az hE) hC.up) ?_;rintro _ T3 IF;refine ae 3 [] λ _=>aak [13] [0,1,3,4]<|ag [0,1,3,4] [0,4,8,1,5,9,2,6,10,3,7,11,12] (ow 0 5++[.ro 0])<|aae 13 (aag [0,1,3,4] [.own 2,.own 2,.own 2,.own 2] λ _=>?_);refine ag [0,1,3,4] [14] []<|aad<|ae 1 [] λ _=>aap [.own 2,.own 2,.own 2,.own 2] [] [0] (v:=.tuple #[.bool false,.agg (aaa (eY (g.step M) M).e).toArray,.bool ((eY (g.step M) M).em)]) (H':=(ap [] [T3])) ?_;exact⟨T3,rfl,IF.weak (by omega),rfl⟩
theorem Nc(g:Gm)(mb:Nat)(M:MemS)(k:Nat)(T F:HL)(hM:MemH mb M (k+20) T)(hS:SetIn F g.S)(hp:M.get 1=7) :Sp Tryz.prog 107 #[.iface 113 (vP mb 0),.agg #[vI g.S.players,vS g.S.bb (g.S.bo*9) g.S.nb g.S.bc,vI g.S.box.x0,vI g.S.box.y0,vI g.S.box.x1,vI g.S.box.y1,.slice g.S.rA g.S.rn g.S.rc,.slice g.S.dA g.S.dn g.S.dc,vI g.S.fog,vI g.S.g.x,vI g.S.g.y,vI g.S.push,vI g.S.drag,vI g.S.rest,vI g.S.rounds,vI g.S.fuel],.agg #[.slice g.cA g.cn g.cc,vI g.e0,vI g.e1,vI g.e2],vI g.version,vS g.ib (g.io*3) g.ni g.ic] (ap [] [T]) F (λ u H'=>∃x,H'=ap [] [x] /\ (MemH mb (du (g.step M) M) k x /\ u=.tuple #[.bool (fN (g.step M)),.agg #[vI 0,vI 0,vI 0,vI 0],.bool false])):=by
 refine aat Tryz.func107 rfl mn (A:=[]) (Ts:=[T]) rfl λ w0=>?_;refine ae 29 (ow 0 8) λ n1=>aah (jo 1 hp hM (au 0))<|ae 18 [] λ _=>aak [] []<|ag [] [0,1,2,3,4,5,7] (ow 3 16++[.own 2,.own 2,.own 2,.own 2])<|aac [] 6 (λ X_=>(ay 2 hM (aK 0)))<|aac [] 8 (λ X_=>(ay 3 hM (aK 0)))<|ag [] [9] []<|aae 10 (aag [] [] λ n2=>?_);refine ag [] [11] []<|aad<|ae 7 [.own 1] λ _=>aai [0] [0] (Gg (g.step M) (n2+0) mb M (k+6) T _ hM hS.up ) ?_;rintro _ T3 IF;refine ae 3 [] λ _=>aak [13] [0,1,3,4]<|ag [0,1,3,4] [0,4,8,1,5,9,2,6,10,3,7,11,12] (ow 0 5++[.ro 0])<|aae 13 (aag [0,1,3,4] [.own 2,.own 2,.own 2,.own 2] λ _=>?_);refine ag [0,1,3,4] [14] []<|aad<|ae 1 [] λ _=>aap [.own 2,.own 2,.own 2,.own 2] [] [0] (v:=.tuple #[.bool (fN (g.step M)),.agg #[vI 0,vI 0,vI 0,vI 0],.bool false]) (H':=(ap [] [T3])) ?_;exact⟨T3,rfl,IF.weak (by omega),rfl⟩
def nP:Enc Eff:=⟨4,λ p k=>match k with|0=>vI p.t|1=>vI p.i|2=>vI p.k|_=>vI p.v,bC⟩
noncomputable def L5:TypeInfo:=match Tryz.prog.info? 111 with | some i=>i | none=>⟨.bool,"",0,0,false,0,0,none,false,#[]⟩
noncomputable def L6:Value:=match L5.zero with|some z=>z|none=>.bool false
theorem zN:EncOk nP Tryz.prog 111 L5 L6 where
 info:=by kernel_rfl
 zero:=by kernel_rfl
 size:=by kernel_rfl
 zsize:=by kernel_rfl
 zcell:=λ k hk=>by
  have h:∀k<4,L6.cells[k]?=some (nP.cell nP.dflt k):=by intro k hk;(iterate 4 (rcases k with _|k;· kernel_rfl));omega
  exact h k hk
 one:=λ x k=>by unfold nP;dsimp only;split <;> rfl
 bytes:=aaN (by kernel_rfl)
def eU(g:Gm)(M:MemS):VR:=if M.get 1=0 then ⟨aR (g.step M) M,0,bC,false⟩ else if M.get 1=1 then (eX (g.step M) M) else if M.get 1=2 then (cT (g.step M) M) else if M.get 1=3 then ⟨aS (g.step M) M,0,bC,false⟩ else if M.get 1=4 then ⟨bI (g.step M) M,0,bC,false⟩ else if M.get 1=5 then ⟨dP (g.step M) M,0,bC,false⟩ else if M.get 1=6 then (eY (g.step M) M) else ⟨du (g.step M) M,0,bC,false⟩
def jh(g:Gm)(M:MemS):Bool:=if M.get 1=7 then fN (g.step M) else false
abbrev ji(g:Gm)(M:MemS):MemS:=(eU g M).M
abbrev Gh(M:MemS):Prop:=0 <= M.get 1 /\ M.get 1 <= 7
structure GmIn(F:HL)(g:Gm):Prop where
 set:SetIn F g.S
 ins:(g.ib,.rows 3 g.iR (kK g.ins) 40 (0,0))∈F
 room:g.io+g.ni <= g.iR /\ g.ni <= 1000000
 eff:cG F
 code:CodeIn F g.code g.cA g.cn
theorem Dt(g:Gm)(mb:Nat)(M:MemS)(k:Nat)(T F:HL)(hM:MemH mb M (k+20) T)(hg:GmIn F g)(h0:Gh M)(ZF:Int)(Yq:g.version=ZF):Sp Tryz.prog 107 #[.iface 113 (vP mb 0),.agg #[vI g.S.players,vS g.S.bb (g.S.bo*9) g.S.nb g.S.bc,vI g.S.box.x0,vI g.S.box.y0,vI g.S.box.x1,vI g.S.box.y1,.slice g.S.rA g.S.rn g.S.rc,.slice g.S.dA g.S.dn g.S.dc,vI g.S.fog,vI g.S.g.x,vI g.S.g.y,vI g.S.push,vI g.S.drag,vI g.S.rest,vI g.S.rounds,vI g.S.fuel],.agg #[.slice g.cA g.cn g.cc,vI g.e0,vI g.e1,vI g.e2],vI ZF,vS g.ib (g.io*3) g.ni g.ic] (ap [] [T]) F (λ u H'=>∃x,H'=ap [] [x] /\ (MemH mb (ji g M) k x /\ u=.tuple #[.bool (jh g M),.agg (aaa (eU g M).e).toArray,.bool ((eU g M).em)])):=by
 subst Yq
 by_cases h0:M.get 1=0
 ·rw[ji,show eU g M=⟨aR (g.step M) M,0,bC,false⟩ by simp only[eU,if_pos h0],show jh g M=false by simp[jh,h0]];exact M3 g mb M k T F hM hg.set h0 hg.ins hg.room
 by_cases h1:M.get 1=1
 ·rw[ji,show eU g M=(eX (g.step M) M) by simp only[eU,if_neg h0,if_pos h1],show jh g M=false by simp[jh,h1]];exact M4 g mb M k T F hM hg.set h1 hg.eff hg.code
 by_cases h2:M.get 1=2
 ·rw[ji,show eU g M=(cT (g.step M) M) by simp only[eU,if_neg h0,if_neg h1,if_pos h2],show jh g M=false by simp[jh,h2]];exact M5 g mb M k T F hM hg.set h2 hg.eff hg.code
 by_cases h3:M.get 1=3
 ·rw[ji,show eU g M=⟨aS (g.step M) M,0,bC,false⟩ by simp only[eU,if_neg h0,if_neg h1,if_neg h2,if_pos h3],show jh g M=false by simp[jh,h3]];exact M6 g mb M k T F hM hg.set h3
 by_cases h4:M.get 1=4
 ·rw[ji,show eU g M=⟨bI (g.step M) M,0,bC,false⟩ by simp only[eU,if_neg h0,if_neg h1,if_neg h2,if_neg h3,if_pos h4],show jh g M=false by simp[jh,h4]];exact M7 g mb M k T F hM hg.set h4
 by_cases h5:M.get 1=5
 ·rw[ji,show eU g M=⟨dP (g.step M) M,0,bC,false⟩ by simp only[eU,if_neg h0,if_neg h1,if_neg h2,if_neg h3,if_neg h4,if_pos h5],show jh g M=false by simp[jh,h5]];exact M8 g mb M k T F hM hg.set h5
 by_cases h6:M.get 1=6
 ·rw[ji,show eU g M=(eY (g.step M) M) by simp only[eU,if_neg h0,if_neg h1,if_neg h2,if_neg h3,if_neg h4,if_neg h5,if_pos h6],show jh g M=false by simp[jh,h6]];exact M9 g mb M k T F hM hg.set h6 hg.eff hg.code
 have h7:M.get 1=7:=by omega
 rw[ji,show eU g M=⟨du (g.step M) M,0,bC,false⟩ by simp only[eU,if_neg h0,if_neg h1,if_neg h2,if_neg h3,if_neg h4,if_neg h5,if_neg h6],show jh g M=fN (g.step M) by simp[jh,h7]];exact Nc g mb M k T F hM hg.set h7
def fU(g:Gm):Nat -> MemS -> MemS
 | 0,M=>M
 | n+1,M=>fU g n (ji g M)
def dQ(g:Gm):Nat -> MemS -> List Eff
 | 0,_=>[]
 | n+1,M=>(if (eU g M).em=true then [(eU g M).e] else [])++dQ g n (ji g M)
def dV(g:Gm):Nat -> MemS -> Prop
 | 0,_=>False
 | n+1,M=>Gh M /\ ((n=0 /\ jh g M=true) \/ (jh g M=false /\ dV g n (ji g M)))
theorem s7{g:Gm}{n:Nat}{M:MemS}(h:(eU g M).em=true):dQ g (n+1) M=(eU g M).e::dQ g n (ji g M):=by rw[dQ,if_pos h];rfl
theorem nQ{g:Gm}{n:Nat}{M:MemS}(h:¬ (eU g M).em=true):dQ g (n+1) M=dQ g n (ji g M):=by rw[dQ,if_neg h];rfl
theorem s8(g:Gm):∀n M,(dQ g n M).length <= n
 | 0,_=>aa0 _
 | n+1,M=>by
  rw[dQ,abi];have:=s8 g n (ji g M);split
  ·simp;omega
  ·simp;omega
def Shp.nm(s:Shp):Shp:=⟨s.r,s.poly,none,0⟩
def Bod.nm(b:Bod):Bod:=⟨b.sh.nm,b.mot,b.a,b.b⟩
def Setup.nm(S:Setup):Setup:={ S with bb:=0,bo:=0,bc:=0,bR:=0,bods:=(S.bods.drop S.bo).map Bod.nm,rA:=none,rc:=0,dA:=none,dc:=0 }
def Stp.nm(t:Stp):Stp:={ t with S:=t.S.nm,cA:=none,cc:=0,ib:=0,io:=0,ic:=0,iR:=0,ins:=[] }
theorem Du{α:Type}(l:List α)(o k:Nat)(d:α):(l.drop o).getD (0+k) d=l.getD (o+k) d:=by
 rw[Nat.zero_add,aaJ,aaJ,ack]
theorem Gi{α β:Type}(f:α -> β)(l:List α)(k:Nat)(d:α):(l.map f).getD k (f d)=f (l.getD k d):=by
 rw[aaJ,aaJ,List.getElem?_map];cases l[k]? <;> rfl
theorem p9(S:Setup)(k:Nat):S.nm.body k=(S.body k).nm:=by
 show ((S.bods.drop S.bo).map Bod.nm).getD (0+k) dB=Bod.nm (S.bods.getD (S.bo+k) dB);rw[<- Du S.bods S.bo k dB];exact Gi Bod.nm _ _ dB
theorem kh(S:Setup):S.nm.players=S.players:=rfl
theorem iy(S:Setup):S.nm.nb=S.nb:=rfl
theorem Gj(S:Setup):S.nm.box=S.box:=rfl
theorem Nd(S:Setup):S.nm.g=S.g:=rfl
theorem Dv(S:Setup):S.nm.push=S.push:=rfl
theorem Dw(S:Setup):S.nm.drag=S.drag:=rfl
theorem s9(S:Setup):S.nm.rest=S.rest:=rfl
theorem wO(S:Setup):S.nm.rounds=S.rounds:=rfl
theorem ta(S:Setup):S.nm.fuel=S.fuel:=rfl
theorem BH(t:Stp):t.nm.cn=t.cn:=rfl
theorem BI(t:Stp):t.nm.e0=t.e0:=rfl
theorem Kh(t:Stp):t.nm.e1=t.e1:=rfl
theorem BJ(t:Stp):t.nm.e2=t.e2:=rfl
theorem uM(t:Stp):t.nm.version=t.version:=rfl
theorem dq(t:Stp):t.nm.i=t.i:=rfl
theorem g9(t:Stp):t.nm.j=t.j:=rfl
theorem zO(t:Stp):t.nm.ended=t.ended:=rfl
theorem qd(t:Stp):t.nm.f0=t.f0:=rfl
theorem qf(t:Stp):t.nm.f1=t.f1:=rfl
theorem qg(t:Stp):t.nm.f2=t.f2:=rfl
theorem qh(t:Stp):t.nm.f3=t.f3:=rfl
theorem iz(t:Stp):t.nm.emitted=t.emitted:=rfl
theorem oE(t:Stp):t.nm.code=t.code:=rfl
theorem bH(t:Stp):t.nm.S=t.S.nm:=rfl
theorem BK(b:Bod):b.nm.sh=b.sh.nm:=rfl
theorem wP(b:Bod):b.nm.mot=b.mot:=rfl
theorem Nf(s:Shp):s.nm.r=s.r:=rfl
theorem jv(S:Setup)(k:Int) :ah S.nm k=ah S k:=by
 unfold ah;simp only[kh,bH] <;> rfl
theorem fo(S:Setup)(k:Int) :af S.nm k=af S k:=by
 unfold af;simp only[kh,iy,bH] <;> rfl
theorem uN(S:Setup)(k:Int) :(movP S.nm k)=(movP S k):=by
 unfold movP;simp only[iy,bH,wP,p9] <;> rfl
theorem nR(S:Setup)(M:MemS)(k:Int) :ao S.nm M k=ao S M k:=by
 unfold ao;simp only[bH,wP,p9,fo] <;> rfl
theorem wQ(a:Shp)(pa:V2)(b:Shp)(pb:V2) :cH a.nm pa b.nm pb=cH a pa b pb:=by
 kernel_rfl
theorem Gk(a:Shp)(pa va:V2)(b:Shp)(pb vb:V2) :mw a.nm pa va b.nm pb vb=mw a pa va b pb vb:=by
 kernel_rfl
theorem zP(t:Stp)(k:Int)(m:Mot)(M:MemS) :dp t.nm k m M=dp t k m M:=by
 unfold dp;simp only[bH,fo] <;> rfl
theorem Dx(t:Stp)(c sp pos lo hi:Int)(M:MemS) :dR t.nm c sp pos lo hi M=dR t c sp pos lo hi M:=by
 unfold dR;simp only[s9,bH] <;> rfl
theorem tc(t:Stp)(M:MemS) :bg t.nm M=bg t M:=by
 unfold bg;simp only[uM,dq,bH] <;> rfl
theorem td(t:Stp)(M:MemS) :bS t.nm M=bS t M:=by
 unfold bS;simp only[kh,dq,bH] <;> rfl
theorem wR(t:Stp) :fN t.nm=fN t:=by
 unfold fN;simp only[iy,dq,zO,bH] <;> rfl
theorem Gl(t:Stp)(M:MemS) :fO t.nm M=fO t M:=by
 unfold fO;simp only[dq,bH,fo] <;> rfl
theorem Gn(t:Stp)(M:MemS) :f9 t.nm M=f9 t M:=by
 unfold f9;simp only[iy,dq,bH] <;> rfl
theorem wS(t:Stp)(M:MemS) :du t.nm M=du t M:=by
 unfold du;simp only[bH,Gl,Gn] <;> rfl
theorem Dy(t:Stp)(M:MemS) :cf t.nm M=cf t M:=by
 unfold cf;simp only[Nd,Dv,Dw,dq,bH,jv,nR] <;> rfl
theorem Dz(t:Stp)(M:MemS) :bG t.nm M=bG t M:=by
 unfold bG;simp only[dq,bH,fo] <;> rfl
theorem DA(t:Stp)(M:MemS) :bK t.nm M=bK t M:=by
 unfold bK;simp only[dq,bH,fo,uN,Dy] <;> rfl
theorem DB(t:Stp)(M:MemS) :bU t.nm M=bU t M:=by
 unfold bU;simp only[iy,dq,bH] <;> rfl
theorem tf(t:Stp)(M:MemS) :aS t.nm M=aS t M:=by
 unfold aS;simp only[bH,Dz,DA,DB] <;> rfl
theorem zQ(t:Stp)(M:MemS) :gC t.nm M=gC t M:=by
 unfold gC;simp only[dq,bH,nR] <;> rfl
theorem zR(t:Stp)(M:MemS) :cW t.nm M=cW t M:=by
 unfold cW;simp only[Gj,dq,bH,fo,Dx,zQ] <;> rfl
theorem Gp(S:Setup)(op n a b:Int)(M:MemS) :aC S.nm op n a b M=aC S op n a b M:=by
 unfold aC;simp only[bH,fo] <;> rfl
theorem Gq(S:Setup)(op n sp pc fuel:Int)(M:MemS) :bP S.nm op n sp pc fuel M=bP S op n sp pc fuel M:=by
 unfold bP;simp only[ta,bH,Gp] <;> rfl
theorem Gr(S:Setup)(code:List Ins)(n:Nat)(M:MemS) :ak S.nm code n M=ak S code n M:=by
 unfold ak;simp only[oE,bH,Gq] <;> rfl
theorem uO(e:Int)(t:Stp)(self other:Int)(M:MemS) :eK e t.nm self other M=eK e t self other M:=by
 unfold eK;simp only[ta,BH,g9,iz,oE,bH,Gr,qd,qf,qg,qh] <;> rfl
theorem uP(e:Int)(t:Stp)(self other:Int)(M:MemS) :dE e t.nm self other M=dE e t self other M:=by
 unfold dE;simp only[BH,g9,oE,bH] <;> rfl
theorem wT(r:VR)(over:Bool)(t:Stp)(RT:Bool)(M:MemS) :dw r over t.nm RT M=dw r over t RT M:=by
 unfold dw;simp only[dq,g9,iz,bH,Nf,qd,qf,qg,qh] <;> rfl
theorem BL(t:Stp)(M:MemS) :eX t.nm M=eX t M:=by
 unfold eX;simp only[dq,iz,bH,jv,qd,qf,qg,qh,BI,BJ,uO,uP,wT] <;> rfl
theorem wU(t:Stp)(M:MemS) :cT t.nm M=cT t M:=by
 unfold cT;simp only[bH,Kh,dq,g9,uO,uP] <;> rfl
theorem BM(t:Stp)(M:MemS) :eY t.nm M=eY t M:=by
 unfold eY;simp only[dq,iz,bH,fo,qd,qf,qg,qh,BI,BJ,uO,uP,wT] <;> rfl
theorem BN(t:Stp)(M:MemS) :sj t.nm M=sj t M:=by
 unfold sj;simp only[dq,g9,bH,BK,p9,nR,wQ] <;> rfl
theorem Ki(t:Stp)(M:MemS) :wN t.nm M=wN t M:=by
 unfold wN;simp only[s9,dq,g9,bH,nR,BN] <;> rfl
theorem wV(t:Stp)(M:MemS) :fE t.nm M=fE t M:=by
 unfold fE;simp only[dq,g9,bH,fo,zP,Ki] <;> rfl
theorem DC(t:Stp)(M:MemS) :dK t.nm M=dK t M:=by
 unfold dK;simp only[iy,dq,g9,bH,BN,wV] <;> rfl
theorem Kj(t:Stp)(M:MemS) :sk t.nm M=sk t M:=by
 unfold sk;simp only[dq,g9,bH,BK,p9,nR,Gk] <;> rfl
theorem Gs(t:Stp)(M:MemS) :eL t.nm M=eL t M:=by
 unfold eL;simp only[dq,g9,bH,uN,Kj] <;> rfl
theorem Gt(t:Stp)(M:MemS) :fF t.nm M=fF t M:=by
 unfold fF;simp only[iy,dq,bH] <;> rfl
theorem wW(t:Stp)(M:MemS) :dP t.nm M=dP t M:=by
 unfold dP;simp only[iy,dq,g9,bH,uN,zR,Gs,Gt] <;> rfl
theorem pC(t:Stp)(M:MemS) :bI t.nm M=bI t M:=by
 unfold bI;simp only[iy,wO,dq,g9,bH,DC] <;> rfl
def Gm.nm(g:Gm):Gm:={ g with S:=g.S.nm,cA:=none,cc:=0,ib:=0,io:=0,ic:=0,iR:=0,ins:=[] }
theorem lN(g:Gm)(M:MemS):g.nm.step M=(g.step M).nm:=rfl
structure GEq(g g':Gm):Prop where
 nm:g.nm=g'.nm
 inp:∀k,k<g.ni -> g.ins.getD (g.io+k) dI=g'.ins.getD (g'.io+k) dI
theorem DD{g g':Gm}(h:GEq g g')(M:MemS):aR (g.step M) M=aR (g'.step M) M:=by
 have hs:(g.step M).nm=(g'.step M).nm:=by rw[<- lN,<- lN,h.nm]
 unfold aR;rw[<- tc (g.step M),hs,tc];generalize bg (g'.step M) M=N;have hb:bz (g.step M) N=bz (g'.step M) N:=by
  have hS:(g.step M).S.nm=(g'.step M).S.nm:=show (g.step M).nm.S=(g'.step M).nm.S by rw[hs]
  have hi:(g.step M).i=(g'.step M).i:=show (g.step M).nm.i=(g'.step M).nm.i by rw[hs]
  have hn:(g.step M).ni=(g'.step M).ni:=show (g.step M).nm.ni=(g'.step M).nm.ni by rw[hs]
  unfold bz;rw[<- jv (g.step M).S,hS,jv,hi,hn]
  by_cases h1:ah (g'.step M).S (g'.step M).i >= 0
  ·rw[if_pos h1,if_pos h1]
   by_cases h2:(g'.step M).i<(g'.step M).ni
   ·rw[if_pos h2,if_pos h2];have h3:0 <= (g'.step M).i:=by
     rcases Int.lt_or_le (g'.step M).i 0 with h4|h4
     ·unfold ah at h1;rw[if_pos h4] at h1;omega
     ·exact h4
    have e:(g.step M).inp (g'.step M).i.toNat=(g'.step M).inp (g'.step M).i.toNat:=by
     have h5:(g'.step M).i.toNat<g.ni:=by
      have h6:((g'.step M).ni:Int)=(g.ni:Int):=congrArg (Nat.cast) hn.symm;omega
     exact h.inp _ h5
    rw[e]
   ·rw[if_neg h2,if_neg h2]
  ·rw[if_neg h1,if_neg h1]
 rw[hb,<- td (g.step M),hs,td]
theorem uQ{g g':Gm}(h:GEq g g')(M:MemS):eU g M=eU g' M:=by
 have hs:(g.step M).nm=(g'.step M).nm:=by rw[<- lN,<- lN,h.nm]
 unfold eU;rw[DD h,<- BL (g.step M),<- wU (g.step M),<- tf (g.step M),<- pC (g.step M),<- wW (g.step M),<- BM (g.step M),<- wS (g.step M),hs,BL,wU,tf,pC,wW,BM,wS]
theorem Gu{g g':Gm}(h:GEq g g')(M:MemS):jh g M=jh g' M:=by
 have hs:(g.step M).nm=(g'.step M).nm:=by rw[<- lN,<- lN,h.nm]
 unfold jh;rw[<- wR (g.step M),hs,wR]
theorem BO{g g':Gm}(h:GEq g g'):∀ (n:Nat) (M:MemS),fU g n M=fU g' n M
 | 0,_=>rfl
 | n+1,M=>by rw[fU,fU,ji,ji,uQ h];exact BO h n _
theorem wX{g g':Gm}(h:GEq g g'):∀ (n:Nat) (M:MemS),dQ g n M=dQ g' n M
 | 0,_=>rfl
 | n+1,M=>by rw[dQ,dQ,ji,ji,uQ h,wX h n]
def MemS.sh(M:MemS)(l:List (Int × Int))(b:Int):MemS:=⟨M.cs,l++M.lg,b⟩
def VR.sh(r:VR)(l:List (Int × Int))(b:Int):VR:={ r with M:=r.M.sh l b }
theorem aV(M:MemS)(l:List (Int × Int))(b i:Int):(M.sh l b).get i=M.get i:=rfl
theorem aW(M:MemS)(l:List (Int × Int))(b i v:Int):(M.sh l b).set i v=(M.set i v).sh l b:=by
 unfold MemS.set MemS.sh;dsimp only;split
 ·simp
 ·rfl
theorem aZ(M N:MemS)(l:List (Int × Int))(b:Int)(c:Prop)[Decidable c]:(if c then M.sh l b else N.sh l b)=(if c then M else N).sh l b:=by split <;> rfl
theorem aI(M N:VR)(l:List (Int × Int))(b:Int)(c:Prop)[Decidable c]:(if c then M.sh l b else N.sh l b)=(if c then M else N).sh l b:=by split <;> rfl
theorem aX(M:MemS)(l:List (Int × Int))(b v:Int)(e:Eff)(em:Bool):(⟨M.sh l b,v,e,em⟩:VR)=VR.sh ⟨M,v,e,em⟩ l b:=rfl
theorem aA(code:List Ins)(M:MemS)(l:List (Int × Int))(b:Int):bq code (M.sh l b)=bq code M:=rfl
theorem bZ(r:VR)(l:List (Int × Int))(b:Int):(r.sh l b).z=r.z.sh l b:=rfl
theorem bJ(r:VR)(l:List (Int × Int))(b:Int):(r.sh l b).M=r.M.sh l b:=rfl
theorem b6(r:VR)(l:List (Int × Int))(b:Int):(r.sh l b).v=r.v:=rfl
theorem bQ(r:VR)(l:List (Int × Int))(b:Int):(r.sh l b).e=r.e:=rfl
theorem aY(r:VR)(l:List (Int × Int))(b:Int):(r.sh l b).em=r.em:=rfl
theorem nS(S:Setup)(M:MemS)(k:Int)(l_:List (Int × Int))(b_:Int):ao S (M.sh l_ b_) k=ao S M k:=by
 unfold ao;simp only[aV,aW,aZ,aI,aX,bJ,b6,bQ,aY,aA,bZ] <;> rfl
theorem gl(t:Stp)(ph j:Int)(M:MemS)(l_:List (Int × Int))(b_:Int):aL t ph j (M.sh l_ b_)=(aL t ph j M).sh l_ b_:=by
 unfold aL;simp only[aV,aW,aZ,aI,aX,bJ,b6,bQ,aY,aA,bZ] <;> rfl
theorem zS(t:Stp)(k:Int)(m:Mot)(M:MemS)(l_:List (Int × Int))(b_:Int):dp t k m (M.sh l_ b_)=(dp t k m M).sh l_ b_:=by
 unfold dp;simp only[aV,aW,aZ,aI,aX,bJ,b6,bQ,aY,aA,bZ] <;> rfl
theorem DE(t:Stp)(c sp pos lo hi:Int)(M:MemS)(l_:List (Int × Int))(b_:Int):dR t c sp pos lo hi (M.sh l_ b_)=(dR t c sp pos lo hi M).sh l_ b_:=by
 unfold dR;simp only[aV,aW,aZ,aI,aX,bJ,b6,bQ,aY,aA,bZ] <;> rfl
theorem DF(t:Stp)(M:MemS)(l_:List (Int × Int))(b_:Int):bg t (M.sh l_ b_)=(bg t M).sh l_ b_:=by
 unfold bg;simp only[aV,aW,aZ,aI,aX,bJ,b6,bQ,aY,aA,bZ] <;> rfl
theorem DG(t:Stp)(M:MemS)(l_:List (Int × Int))(b_:Int):bz t (M.sh l_ b_)=(bz t M).sh l_ b_:=by
 unfold bz;simp only[aV,aW,aZ,aI,aX,bJ,b6,bQ,aY,aA,bZ] <;> rfl
theorem DH(t:Stp)(M:MemS)(l_:List (Int × Int))(b_:Int):bS t (M.sh l_ b_)=(bS t M).sh l_ b_:=by
 unfold bS;simp only[aV,aW,aZ,aI,aX,bJ,b6,bQ,aY,aA,bZ,gl] <;> rfl
theorem DI(t:Stp)(M:MemS)(l_:List (Int × Int))(b_:Int):aR t (M.sh l_ b_)=(aR t M).sh l_ b_:=by
 unfold aR;simp only[aV,aW,aZ,aI,aX,bJ,b6,bQ,aY,aA,bZ,DF,DG,DH] <;> rfl
theorem Gv(t:Stp)(M:MemS)(l_:List (Int × Int))(b_:Int):fO t (M.sh l_ b_)=(fO t M).sh l_ b_:=by
 unfold fO;simp only[aV,aW,aZ,aI,aX,bJ,b6,bQ,aY,aA,bZ] <;> rfl
theorem tg(M:MemS)(l_:List (Int × Int))(b_:Int):∀n,cE (M.sh l_ b_) n=(cE M n).sh l_ b_
 | 0=>rfl
 | n+1=>by rw[cE,cE,tg M l_ b_ n,aW]
theorem Gw(t:Stp)(M:MemS)(l_:List (Int × Int))(b_:Int):f9 t (M.sh l_ b_)=(f9 t M).sh l_ b_:=by
 unfold f9;simp only[aV,aW,aZ,aI,aX,bJ,b6,bQ,aY,aA,bZ,tg] <;> rfl
theorem Gx(t:Stp)(M:MemS)(l_:List (Int × Int))(b_:Int):du t (M.sh l_ b_)=(du t M).sh l_ b_:=by
 unfold du;simp only[aV,aW,aZ,aI,aX,bJ,b6,bQ,aY,aA,bZ,Gv,Gw] <;> rfl
theorem DJ(t:Stp)(M:MemS)(l_:List (Int × Int))(b_:Int):cf t (M.sh l_ b_)=cf t M:=by
 unfold cf;simp only[aV,aW,aZ,aI,aX,bJ,b6,bQ,aY,aA,bZ,nS] <;> rfl
theorem DL(t:Stp)(M:MemS)(l_:List (Int × Int))(b_:Int):bG t (M.sh l_ b_)=(bG t M).sh l_ b_:=by
 unfold bG;simp only[aV,aW,aZ,aI,aX,bJ,b6,bQ,aY,aA,bZ] <;> rfl
theorem DM(t:Stp)(M:MemS)(l_:List (Int × Int))(b_:Int):bK t (M.sh l_ b_)=(bK t M).sh l_ b_:=by
 unfold bK;simp only[aV,aW,aZ,aI,aX,bJ,b6,bQ,aY,aA,bZ,DJ] <;> rfl
theorem DN(t:Stp)(M:MemS)(l_:List (Int × Int))(b_:Int):bU t (M.sh l_ b_)=(bU t M).sh l_ b_:=by
 unfold bU;simp only[aV,aW,aZ,aI,aX,bJ,b6,bQ,aY,aA,bZ,gl] <;> rfl
theorem DP(t:Stp)(M:MemS)(l_:List (Int × Int))(b_:Int):aS t (M.sh l_ b_)=(aS t M).sh l_ b_:=by
 unfold aS;simp only[aV,aW,aZ,aI,aX,bJ,b6,bQ,aY,aA,bZ,DL,DM,DN] <;> rfl
theorem zT(M:MemS)(l_:List (Int × Int))(b_:Int):lL (M.sh l_ b_)=lL M:=by
 unfold lL;simp only[aV,aW,aZ,aI,aX,bJ,b6,bQ,aY,aA,bZ] <;> rfl
theorem zU(t:Stp)(M:MemS)(l_:List (Int × Int))(b_:Int):gC t (M.sh l_ b_)=gC t M:=by
 unfold gC;simp only[aV,aW,aZ,aI,aX,bJ,b6,bQ,aY,aA,bZ,nS,zT] <;> rfl
theorem zV(t:Stp)(M:MemS)(l_:List (Int × Int))(b_:Int):cW t (M.sh l_ b_)=(cW t M).sh l_ b_:=by
 unfold cW;simp only[aV,aW,aZ,aI,aX,bJ,b6,bQ,aY,aA,bZ,DE,zU] <;> rfl
theorem Gy(k v:Int)(M:MemS)(l_:List (Int × Int))(b_:Int):cM k v (M.sh l_ b_)=(cM k v M).sh l_ b_:=by
 unfold cM;simp only[aV,aW,aZ,aI,aX,bJ,b6,bQ,aY,aA,bZ] <;> rfl
theorem Gz(S:Setup)(op n a b:Int)(M:MemS)(l_:List (Int × Int))(b_:Int):aC S op n a b (M.sh l_ b_)=(aC S op n a b M).sh l_ b_:=by
 unfold aC;simp only[aV,aW,aZ,aI,aX,bJ,b6,bQ,aY,aA,bZ,Gy] <;> rfl
theorem Kk(op sp:Int)(M:MemS)(l_:List (Int × Int))(b_:Int):eo op sp (M.sh l_ b_)=eo op sp M:=by
 unfold eo;simp only[aV,aW,aZ,aI,aX,bJ,b6,bQ,aY,aA,bZ] <;> rfl
theorem Kl(op sp:Int)(M:MemS)(l_:List (Int × Int))(b_:Int):ep op sp (M.sh l_ b_)=ep op sp M:=by
 unfold ep;simp only[aV,aW,aZ,aI,aX,bJ,b6,bQ,aY,aA,bZ] <;> rfl
theorem Km(op sp pc fuel:Int)(M:MemS)(l_:List (Int × Int))(b_:Int):dJ op sp pc fuel (M.sh l_ b_)=(dJ op sp pc fuel M).sh l_ b_:=by
 unfold dJ;simp only[aV,aW,aZ,aI,aX,bJ,b6,bQ,aY,aA,bZ] <;> rfl
theorem GA(S:Setup)(op n sp pc fuel:Int)(M:MemS)(l_:List (Int × Int))(b_:Int):bP S op n sp pc fuel (M.sh l_ b_)=(bP S op n sp pc fuel M).sh l_ b_:=by
 unfold bP;simp only[aV,aW,aZ,aI,aX,bJ,b6,bQ,aY,aA,bZ,Gz,Kk,Kl,Km] <;> rfl
theorem wY(code:List Ins)(n:Nat)(M:MemS)(l_:List (Int × Int))(b_:Int):(d8 code n (M.sh l_ b_))=(d8 code n M):=by
 unfold d8;simp only[aV,aW,aZ,aI,aX,bJ,b6,bQ,aY,aA,bZ] <;> rfl
theorem GB(op sp:Int)(r:VR)(l_:List (Int × Int))(b_:Int):cg op sp (r.sh l_ b_)=(cg op sp r).sh l_ b_:=by
 unfold cg;simp only[aV,aW,aZ,aI,aX,bJ,b6,bQ,aY,aA,bZ] <;> rfl
theorem GC(S:Setup)(code:List Ins)(n:Nat)(M:MemS)(l_:List (Int × Int))(b_:Int):ak S code n (M.sh l_ b_)=(ak S code n M).sh l_ b_:=by
 unfold ak;simp only[aV,aW,aZ,aI,aX,bJ,b6,bQ,aY,aA,bZ,GA,wY,GB] <;> rfl
theorem Kn(code:List Ins)(n:Nat)(M:MemS)(l_:List (Int × Int))(b_:Int):bA code n (M.sh l_ b_)=bA code n M:=by
 unfold bA;simp only[aV,aW,aZ,aI,aX,bJ,b6,bQ,aY,aA,bZ,wY] <;> rfl
theorem DQ(e fuel self other:Int)(M:MemS)(l_:List (Int × Int))(b_:Int):aM e fuel self other (M.sh l_ b_)=(aM e fuel self other M).sh l_ b_:=by
 unfold aM;simp only[aV,aW,aZ,aI,aX,bJ,b6,bQ,aY,aA,bZ] <;> rfl
theorem uR(e:Int)(t:Stp)(self other:Int)(M:MemS)(l_:List (Int × Int))(b_:Int):eK e t self other (M.sh l_ b_)=(eK e t self other M).sh l_ b_:=by
 unfold eK;simp only[aV,aW,aZ,aI,aX,bJ,b6,bQ,aY,aA,bZ,GC,DQ] <;> rfl
theorem uS(e:Int)(t:Stp)(self other:Int)(M:MemS)(l_:List (Int × Int))(b_:Int):dE e t self other (M.sh l_ b_)=dE e t self other M:=by
 unfold dE;simp only[aV,aW,aZ,aI,aX,bJ,b6,bQ,aY,aA,bZ,Kn] <;> rfl
theorem wZ(r:VR)(over:Bool)(t:Stp)(RT:Bool)(M:MemS)(l_:List (Int × Int))(b_:Int):dw (r.sh l_ b_) over t RT (M.sh l_ b_)=(dw r over t RT M).sh l_ b_:=by
 unfold dw;simp only[aV,aW,aZ,aI,aX,bJ,b6,bQ,aY,aA,bZ] <;> rfl
theorem GD(t:Stp)(o:Int)(c:Bool)(M:MemS)(l_:List (Int × Int))(b_:Int):cN t o c (M.sh l_ b_)=(cN t o c M).sh l_ b_:=by
 unfold cN cj jf;rw[uR,uS,wZ]
theorem GE(t:Stp)(o:Int)(c:Bool)(M:MemS)(l_:List (Int × Int))(b_:Int):cO t o c (M.sh l_ b_)=(cO t o c M).sh l_ b_:=by
 unfold cO cm jg;rw[uR,uS,wZ]
theorem Ko(t:Stp)(M:MemS)(l_:List (Int × Int))(b_:Int):eX t (M.sh l_ b_)=(eX t M).sh l_ b_:=by
 unfold eX;simp only[aV,aW,aZ,aI,aX,bJ,b6,bQ,aY,aA,bZ,gl,GD] <;> rfl
theorem GG(t:Stp)(M:MemS)(l_:List (Int × Int))(b_:Int):cT t (M.sh l_ b_)=(cT t M).sh l_ b_:=by
 unfold cT;simp only[aV,aW,aZ,aI,aX,bJ,b6,bQ,aY,aA,bZ,gl,uR,uS] <;> rfl
theorem BP(t:Stp)(M:MemS)(l_:List (Int × Int))(b_:Int):sj t (M.sh l_ b_)=sj t M:=by
 unfold sj;simp only[aV,aW,aZ,aI,aX,bJ,b6,bQ,aY,aA,bZ,nS] <;> rfl
theorem Kq(t:Stp)(M:MemS)(l_:List (Int × Int))(b_:Int):wN t (M.sh l_ b_)=wN t M:=by
 unfold wN;simp only[aV,aW,aZ,aI,aX,bJ,b6,bQ,aY,aA,bZ,nS,BP] <;> rfl
theorem w7(t:Stp)(M:MemS)(l_:List (Int × Int))(b_:Int):fE t (M.sh l_ b_)=(fE t M).sh l_ b_:=by
 unfold fE;simp only[aV,aW,aZ,aI,aX,bJ,b6,bQ,aY,aA,bZ,zS,Kq] <;> rfl
theorem DS(t:Stp)(M:MemS)(l_:List (Int × Int))(b_:Int):dK t (M.sh l_ b_)=(dK t M).sh l_ b_:=by
 unfold dK;simp only[aV,aW,aZ,aI,aX,bJ,b6,bQ,aY,aA,bZ,BP,w7] <;> rfl
theorem Kr(t:Stp)(M:MemS)(l_:List (Int × Int))(b_:Int):sk t (M.sh l_ b_)=sk t M:=by
 unfold sk;simp only[aV,aW,aZ,aI,aX,bJ,b6,bQ,aY,aA,bZ,nS] <;> rfl
theorem GH(t:Stp)(M:MemS)(l_:List (Int × Int))(b_:Int):eL t (M.sh l_ b_)=(eL t M).sh l_ b_:=by
 unfold eL;simp only[aV,aW,aZ,aI,aX,bJ,b6,bQ,aY,aA,bZ,Kr] <;> rfl
theorem GI(t:Stp)(M:MemS)(l_:List (Int × Int))(b_:Int):fF t (M.sh l_ b_)=(fF t M).sh l_ b_:=by
 unfold fF;simp only[aV,aW,aZ,aI,aX,bJ,b6,bQ,aY,aA,bZ,gl] <;> rfl
theorem GJ(t:Stp)(M:MemS)(l_:List (Int × Int))(b_:Int):dP t (M.sh l_ b_)=(dP t M).sh l_ b_:=by
 unfold dP;simp only[aV,aW,aZ,aI,aX,bJ,b6,bQ,aY,aA,bZ,zV,GH,GI] <;> rfl
theorem xa(t:Stp)(M:MemS)(l_:List (Int × Int))(b_:Int):bI t (M.sh l_ b_)=(bI t M).sh l_ b_:=by
 unfold bI;simp only[aV,aW,aZ,aI,aX,bJ,b6,bQ,aY,aA,bZ,gl,DS] <;> rfl
theorem Ks(t:Stp)(M:MemS)(l_:List (Int × Int))(b_:Int):eY t (M.sh l_ b_)=(eY t M).sh l_ b_:=by
 unfold eY;simp only[aV,aW,aZ,aI,aX,bJ,b6,bQ,aY,aA,bZ,gl,GE] <;> rfl
theorem Ku(g:Gm)(M:MemS)(l:List (Int × Int))(b:Int):g.step (M.sh l b)=g.step M:=rfl
theorem uT(g:Gm)(M:MemS)(l:List (Int × Int))(b:Int):eU g (M.sh l b)=(eU g M).sh l b:=by
 unfold eU;simp only[Ku,aV,DI,Ko,GG,DP,xa,GJ,Ks,Gx,aX,aI]
theorem GK(g:Gm)(M:MemS)(l:List (Int × Int))(b:Int):jh g (M.sh l b)=jh g M:=rfl
theorem BQ(g:Gm)(l:List (Int × Int))(b:Int):∀ (n:Nat) (M:MemS),fU g n (M.sh l b)=(fU g n M).sh l b
 | 0,_=>rfl
 | n+1,M=>by rw[fU,fU,ji,ji,uT,bJ];exact BQ g l b n _
theorem xb(g:Gm)(l:List (Int × Int))(b:Int):∀ (n:Nat) (M:MemS),dQ g n (M.sh l b)=dQ g n M
 | 0,_=>rfl
 | n+1,M=>by rw[dQ,dQ,ji,ji,uT,bJ,bQ,aY,xb g l b n]
def xc(g:Gm):Nat -> MemS -> Nat
 | 0,_=>0
 | f+1,M=>if jh g M=true then 0 else xc g f (ji g M)+1
theorem GL{g:Gm}:∀ (m f:Nat) (M:MemS),dV g (m+1) M -> m<f -> xc g f M=m
 | m,0,M,_,h=>by omega
 | 0,f+1,M,h,_=>by
  rcases h.2 with ⟨_,e⟩|⟨_,e⟩
  ·rw[xc,if_pos e]
  ·exact e.elim
 | m+1,f+1,M,h,hf=>by
  rcases h.2 with ⟨e,_⟩|⟨e1,e2⟩
  ·omega
  ·rw[xc,if_neg (by rw[e1];simp),GL m f _ e2 (by omega)]
def gm(g:Gm)(M:MemS):MemS:=fU g (xc g 1000 M+1) M
def my(g:Gm)(M:MemS):List Eff:=dQ g (xc g 1000 M+1) M
theorem zW{g g':Gm}(h:GEq g g'):∀ (f:Nat) (M:MemS),xc g f M=xc g' f M
 | 0,_=>rfl
 | f+1,M=>by rw[xc,xc,Gu h,ji,ji,uQ h,zW h f]
theorem zX{g g':Gm}(h:GEq g g')(M:MemS):gm g M=gm g' M:=by rw[gm,gm,zW h,BO h]
theorem GM{g g':Gm}(h:GEq g g')(M:MemS):my g M=my g' M:=by rw[my,my,zW h,wX h]
theorem zY(g:Gm)(l:List (Int × Int))(b:Int):∀ (f:Nat) (M:MemS),xc g f (M.sh l b)=xc g f M
 | 0,_=>rfl
 | f+1,M=>by rw[xc,xc,GK,ji,ji,uT,bJ,zY g l b f]
theorem uU(g:Gm)(M:MemS)(l:List (Int × Int))(b:Int):gm g (M.sh l b)=(gm g M).sh l b:=by rw[gm,gm,zY,BQ]
theorem GN(g:Gm)(M:MemS)(l:List (Int × Int))(b:Int):my g (M.sh l b)=my g M:=by rw[my,my,zY,xb]
theorem ll(M:MemS):(MemS.sh ⟨M.cs,[],0⟩ M.lg M.base)=M:=by cases M;simp[MemS.sh]
theorem uV(g:Gm){M N:MemS}(h:M.cs=N.cs):(gm g M).cs=(gm g N).cs:=by
 rw[<- ll M,<- ll N,uU,uU,h];rfl
theorem zZ(g:Gm){M N:MemS}(h:M.cs=N.cs):my g M=my g N:=by
 rw[<- ll M,<- ll N,GN,GN,h]
def i5(g:Gm):Nat -> MemS -> List (Eff × Bool)
 | 0,_=>[]
 | n+1,M=>((eU g M).e,(eU g M).em)::i5 g n (ji g M)
theorem i6(g:Gm):∀ (n:Nat) (M:MemS),(i5 g n M).length=n
 | 0,_=>rfl
 | n+1,M=>by rw[i5,abr,i6 g n]
def mg:List (Eff × Bool) -> List Eff
 | []=>[]
 | x::l=>(if x.2=true then [x.1] else [])++mg l
theorem xd(g:Gm):∀ (n:Nat) (M:MemS),mg (i5 g n M)=dQ g n M
 | 0,_=>rfl
 | n+1,M=>by rw[i5,mg,xd g n,dQ]
theorem qK:∀ (l m:List (Eff × Bool)),mg (l++m)=mg l++mg m
 | [],m=>rfl
 | x::l,m=>by rw[List.cons_append,mg,mg,qK l m,aaC]
theorem xe:∀ (l:List (Eff × Bool)),(mg l).length <= l.length
 | []=>aa0 _
 | x::l=>by
  have:=xe l;rw[mg,abi,abr];split
  ·simp;omega
  ·simp;omega
theorem GO{l:List (Eff × Bool)}{i:Nat}{x:Eff × Bool}(h:l[i]?=some x)(e:x.2=true):mg (l.take (i+1))=mg (l.take i)++[x.1]:=by
 rw[List.take_add_one,h,qK];show _++((if x.2=true then [x.1] else [])++[])=_;rw[if_pos e];rfl
theorem Kv{l:List (Eff × Bool)}{i:Nat}{x:Eff × Bool}(h:l[i]?=some x)(e:¬ x.2=true):mg (l.take (i+1))=mg (l.take i):=by
 rw[List.take_add_one,h,qK];show _++((if x.2=true then [x.1] else [])++[])=_;rw[if_neg e];simp
theorem gN{g:Gm}{l:List (Eff × Bool)}{i r:Nat}{M:MemS}(h:l.drop i=i5 g (r+1) M):l[i]?=some ((eU g M).e,(eU g M).em) /\ l.drop (i+1)=i5 g r (ji g M):=by
 constructor
 ·have:=congrArg (·[0]?) h;simpa [i5] using this
 ·have:=congrArg List.tail h;rwa [List.tail_drop] at this
theorem bV{p:MemS -> Prop}{c:Prop}[Decidable c]{A B:MemS}(h1:p A)(h2:p B):p (if c then A else B):=by split <;> assumption
theorem bm{p:MemS -> Prop}{c:Prop}[Decidable c]{A B:VR}(h1:p A.M)(h2:p B.M):p (if c then A else B).M:=by split <;> assumption
theorem dm{p:MemS -> Prop}{r:VR}(h:p r.M):p r.z.M:=h
theorem gn{p:MemS -> Prop}(hp:∀ (M:MemS) (i v:Int),p M -> p (M.set i v))(t:Stp)(ph j:Int)(M:MemS)(Rk:p M):p (aL t ph j M):=by
 unfold aL
 repeat' (first|with_reducible assumption|with_reducible apply hp|with_reducible apply bV|with_reducible apply bm|with_reducible apply dm|split|assumption)
theorem z0{p:MemS -> Prop}(hp:∀ (M:MemS) (i v:Int),p M -> p (M.set i v))(t:Stp)(k:Int)(m:Mot)(M:MemS)(Rk:p M):p (dp t k m M):=by
 unfold dp
 repeat' (first|with_reducible assumption|with_reducible apply hp|with_reducible apply bV|with_reducible apply bm|with_reducible apply dm|split|assumption)
theorem DT{p:MemS -> Prop}(hp:∀ (M:MemS) (i v:Int),p M -> p (M.set i v))(t:Stp)(c sp pos lo hi:Int)(M:MemS)(Rk:p M):p (dR t c sp pos lo hi M):=by
 unfold dR
 repeat' (first|with_reducible assumption|with_reducible apply hp|with_reducible apply bV|with_reducible apply bm|with_reducible apply dm|split|assumption)
theorem DU{p:MemS -> Prop}(hp:∀ (M:MemS) (i v:Int),p M -> p (M.set i v))(t:Stp)(M:MemS)(Rk:p M):p (bg t M):=by
 unfold bg
 repeat' (first|with_reducible assumption|with_reducible apply hp|with_reducible apply bV|with_reducible apply bm|with_reducible apply dm|split|assumption)
theorem DV{p:MemS -> Prop}(hp:∀ (M:MemS) (i v:Int),p M -> p (M.set i v))(t:Stp)(M:MemS)(Rk:p M):p (bz t M):=by
 unfold bz
 repeat' (first|with_reducible assumption|with_reducible apply hp|with_reducible apply bV|with_reducible apply bm|with_reducible apply dm|split|assumption)
theorem DW{p:MemS -> Prop}(hp:∀ (M:MemS) (i v:Int),p M -> p (M.set i v))(t:Stp)(M:MemS)(Rk:p M):p (bS t M):=by
 unfold bS
 repeat' (first|with_reducible assumption|with_reducible apply hp|with_reducible apply gn hp|with_reducible apply bV|with_reducible apply bm|with_reducible apply dm|split|assumption)
theorem DX{p:MemS -> Prop}(hp:∀ (M:MemS) (i v:Int),p M -> p (M.set i v))(t:Stp)(M:MemS)(Rk:p M):p (aR t M):=by
 unfold aR
 repeat' (first|with_reducible assumption|with_reducible apply hp|with_reducible apply DU hp|with_reducible apply DV hp|with_reducible apply DW hp|with_reducible apply bV|with_reducible apply bm|with_reducible apply dm|split|assumption)
theorem GP{p:MemS -> Prop}(hp:∀ (M:MemS) (i v:Int),p M -> p (M.set i v))(t:Stp)(M:MemS)(Rk:p M):p (fO t M):=by
 unfold fO
 repeat' (first|with_reducible assumption|with_reducible apply hp|with_reducible apply bV|with_reducible apply bm|with_reducible apply dm|split|assumption)
theorem th{p:MemS -> Prop}(hp:∀ (M:MemS) (i v:Int),p M -> p (M.set i v))(M:MemS)(h:p M):∀n,p (cE M n)
 | 0=>h
 | n+1=>by rw[cE];exact hp _ _ _ (th hp M h n)
theorem GQ{p:MemS -> Prop}(hp:∀ (M:MemS) (i v:Int),p M -> p (M.set i v))(t:Stp)(M:MemS)(Rk:p M):p (f9 t M):=by
 unfold f9
 repeat' (first|with_reducible assumption|with_reducible apply hp|with_reducible apply th hp|with_reducible apply bV|with_reducible apply bm|with_reducible apply dm|split|assumption)
theorem GR{p:MemS -> Prop}(hp:∀ (M:MemS) (i v:Int),p M -> p (M.set i v))(t:Stp)(M:MemS)(Rk:p M):p (du t M):=by
 unfold du
 repeat' (first|with_reducible assumption|with_reducible apply hp|with_reducible apply GP hp|with_reducible apply GQ hp|with_reducible apply bV|with_reducible apply bm|with_reducible apply dm|split|assumption)
theorem DY{p:MemS -> Prop}(hp:∀ (M:MemS) (i v:Int),p M -> p (M.set i v))(t:Stp)(M:MemS)(Rk:p M):p (bG t M):=by
 unfold bG
 repeat' (first|with_reducible assumption|with_reducible apply hp|with_reducible apply bV|with_reducible apply bm|with_reducible apply dm|split|assumption)
theorem DZ{p:MemS -> Prop}(hp:∀ (M:MemS) (i v:Int),p M -> p (M.set i v))(t:Stp)(M:MemS)(Rk:p M):p (bK t M):=by
 unfold bK
 repeat' (first|with_reducible assumption|with_reducible apply hp|with_reducible apply bV|with_reducible apply bm|with_reducible apply dm|split|assumption)
theorem D1{p:MemS -> Prop}(hp:∀ (M:MemS) (i v:Int),p M -> p (M.set i v))(t:Stp)(M:MemS)(Rk:p M):p (bU t M):=by
 unfold bU
 repeat' (first|with_reducible assumption|with_reducible apply hp|with_reducible apply gn hp|with_reducible apply bV|with_reducible apply bm|with_reducible apply dm|split|assumption)
theorem D2{p:MemS -> Prop}(hp:∀ (M:MemS) (i v:Int),p M -> p (M.set i v))(t:Stp)(M:MemS)(Rk:p M):p (aS t M):=by
 unfold aS
 repeat' (first|with_reducible assumption|with_reducible apply hp|with_reducible apply DY hp|with_reducible apply DZ hp|with_reducible apply D1 hp|with_reducible apply bV|with_reducible apply bm|with_reducible apply dm|split|assumption)
theorem z6{p:MemS -> Prop}(hp:∀ (M:MemS) (i v:Int),p M -> p (M.set i v))(t:Stp)(M:MemS)(Rk:p M):p (cW t M):=by
 unfold cW
 repeat' (first|with_reducible assumption|with_reducible apply hp|with_reducible apply DT hp|with_reducible apply bV|with_reducible apply bm|with_reducible apply dm|split|assumption)
theorem GS{p:MemS -> Prop}(hp:∀ (M:MemS) (i v:Int),p M -> p (M.set i v))(k v:Int)(M:MemS)(Rk:p M):p (cM k v M).M:=by
 unfold cM
 repeat' (first|with_reducible assumption|with_reducible apply hp|with_reducible apply bV|with_reducible apply bm|with_reducible apply dm|split|assumption)
theorem GT{p:MemS -> Prop}(hp:∀ (M:MemS) (i v:Int),p M -> p (M.set i v))(S:Setup)(op n a b:Int)(M:MemS)(Rk:p M):p (aC S op n a b M).M:=by
 unfold aC
 repeat' (first|with_reducible assumption|with_reducible apply hp|with_reducible apply GS hp|with_reducible apply bV|with_reducible apply bm|with_reducible apply dm|split|assumption)
theorem Kw{p:MemS -> Prop}(hp:∀ (M:MemS) (i v:Int),p M -> p (M.set i v))(op sp pc fuel:Int)(M:MemS)(Rk:p M):p (dJ op sp pc fuel M):=by
 unfold dJ
 repeat' (first|with_reducible assumption|with_reducible apply hp|with_reducible apply bV|with_reducible apply bm|with_reducible apply dm|split|assumption)
theorem GU{p:MemS -> Prop}(hp:∀ (M:MemS) (i v:Int),p M -> p (M.set i v))(S:Setup)(op n sp pc fuel:Int)(M:MemS)(Rk:p M):p (bP S op n sp pc fuel M).M:=by
 unfold bP
 repeat' (first|with_reducible assumption|with_reducible apply hp|with_reducible apply GT hp|with_reducible apply Kw hp|with_reducible apply bV|with_reducible apply bm|with_reducible apply dm|split|assumption)
theorem GV{p:MemS -> Prop}(hp:∀ (M:MemS) (i v:Int),p M -> p (M.set i v))(op sp:Int)(r:VR)(Rk:p r.M):p (cg op sp r).M:=by
 unfold cg
 repeat' (first|with_reducible assumption|with_reducible apply hp|with_reducible apply bV|with_reducible apply bm|with_reducible apply dm|split|assumption)
theorem GW{p:MemS -> Prop}(hp:∀ (M:MemS) (i v:Int),p M -> p (M.set i v))(S:Setup)(code:List Ins)(n:Nat)(M:MemS)(Rk:p M):p (ak S code n M).M:=by
 unfold ak
 repeat' (first|with_reducible assumption|with_reducible apply hp|with_reducible apply GU hp|with_reducible apply GV hp|with_reducible apply bV|with_reducible apply bm|with_reducible apply dm|split|assumption)
theorem D3{p:MemS -> Prop}(hp:∀ (M:MemS) (i v:Int),p M -> p (M.set i v))(e fuel self other:Int)(M:MemS)(Rk:p M):p (aM e fuel self other M):=by
 unfold aM
 repeat' (first|with_reducible assumption|with_reducible apply hp|with_reducible apply bV|with_reducible apply bm|with_reducible apply dm|split|assumption)
theorem uW{p:MemS -> Prop}(hp:∀ (M:MemS) (i v:Int),p M -> p (M.set i v))(e:Int)(t:Stp)(self other:Int)(M:MemS)(Rk:p M):p (eK e t self other M).M:=by
 unfold eK
 repeat' (first|with_reducible assumption|with_reducible apply hp|with_reducible apply GW hp|with_reducible apply D3 hp|with_reducible apply bV|with_reducible apply bm|with_reducible apply dm|split|assumption)
theorem jO{p:MemS -> Prop}(hp:∀ (M:MemS) (i v:Int),p M -> p (M.set i v))(r:VR)(over:Bool)(t:Stp)(RT:Bool)(M:MemS)(Rk:p r.M)(X4:p M):p (dw r over t RT M).M:=by
 unfold dw
 repeat' (first|with_reducible assumption|with_reducible apply hp|with_reducible apply bV|with_reducible apply bm|with_reducible apply dm|split|assumption)
theorem GX{p:MemS -> Prop}(hp:∀ (M:MemS) (i v:Int),p M -> p (M.set i v))(t:Stp)(o:Int)(c:Bool)(M:MemS)(h:p M):p (cN t o c M).M:=by
 unfold cN cj jf
 first|exact jO hp _ _ _ _ _ h|exact jO hp _ _ _ _ h|(repeat' (first|assumption|apply jO hp|apply uW hp|split))
theorem GY{p:MemS -> Prop}(hp:∀ (M:MemS) (i v:Int),p M -> p (M.set i v))(t:Stp)(o:Int)(c:Bool)(M:MemS)(h:p M):p (cO t o c M).M:=by
 unfold cO cm jg
 first|exact jO hp _ _ _ _ _ h|exact jO hp _ _ _ _ h|(repeat' (first|assumption|apply jO hp|apply uW hp|split))
theorem Kx{p:MemS -> Prop}(hp:∀ (M:MemS) (i v:Int),p M -> p (M.set i v))(t:Stp)(M:MemS)(Rk:p M):p (eX t M).M:=by
 unfold eX
 repeat' (first|with_reducible assumption|with_reducible apply hp|with_reducible apply gn hp|with_reducible apply GX hp|with_reducible apply bV|with_reducible apply bm|with_reducible apply dm|split|assumption)
theorem GZ{p:MemS -> Prop}(hp:∀ (M:MemS) (i v:Int),p M -> p (M.set i v))(t:Stp)(M:MemS)(Rk:p M):p (cT t M).M:=by
 unfold cT
 repeat' (first|with_reducible assumption|with_reducible apply hp|with_reducible apply gn hp|with_reducible apply uW hp|with_reducible apply bV|with_reducible apply bm|with_reducible apply dm|split|assumption)
theorem xf{p:MemS -> Prop}(hp:∀ (M:MemS) (i v:Int),p M -> p (M.set i v))(t:Stp)(M:MemS)(Rk:p M):p (fE t M):=by
 unfold fE
 repeat' (first|with_reducible assumption|with_reducible apply hp|with_reducible apply z0 hp|with_reducible apply bV|with_reducible apply bm|with_reducible apply dm|split|assumption)
theorem D4{p:MemS -> Prop}(hp:∀ (M:MemS) (i v:Int),p M -> p (M.set i v))(t:Stp)(M:MemS)(Rk:p M):p (dK t M):=by
 unfold dK
 repeat' (first|with_reducible assumption|with_reducible apply hp|with_reducible apply xf hp|with_reducible apply bV|with_reducible apply bm|with_reducible apply dm|split|assumption)
theorem G1{p:MemS -> Prop}(hp:∀ (M:MemS) (i v:Int),p M -> p (M.set i v))(t:Stp)(M:MemS)(Rk:p M):p (eL t M):=by
 unfold eL
 repeat' (first|with_reducible assumption|with_reducible apply hp|with_reducible apply bV|with_reducible apply bm|with_reducible apply dm|split|assumption)
theorem G2{p:MemS -> Prop}(hp:∀ (M:MemS) (i v:Int),p M -> p (M.set i v))(t:Stp)(M:MemS)(Rk:p M):p (fF t M):=by
 unfold fF
 repeat' (first|with_reducible assumption|with_reducible apply hp|with_reducible apply gn hp|with_reducible apply bV|with_reducible apply bm|with_reducible apply dm|split|assumption)
theorem G3{p:MemS -> Prop}(hp:∀ (M:MemS) (i v:Int),p M -> p (M.set i v))(t:Stp)(M:MemS)(Rk:p M):p (dP t M):=by
 unfold dP
 repeat' (first|with_reducible assumption|with_reducible apply hp|with_reducible apply z6 hp|with_reducible apply G1 hp|with_reducible apply G2 hp|with_reducible apply bV|with_reducible apply bm|with_reducible apply dm|split|assumption)
theorem xg{p:MemS -> Prop}(hp:∀ (M:MemS) (i v:Int),p M -> p (M.set i v))(t:Stp)(M:MemS)(Rk:p M):p (bI t M):=by
 unfold bI
 repeat' (first|with_reducible assumption|with_reducible apply hp|with_reducible apply gn hp|with_reducible apply D4 hp|with_reducible apply bV|with_reducible apply bm|with_reducible apply dm|split|assumption)
theorem Ky{p:MemS -> Prop}(hp:∀ (M:MemS) (i v:Int),p M -> p (M.set i v))(t:Stp)(M:MemS)(Rk:p M):p (eY t M).M:=by
 unfold eY
 repeat' (first|with_reducible assumption|with_reducible apply hp|with_reducible apply gn hp|with_reducible apply GY hp|with_reducible apply bV|with_reducible apply bm|with_reducible apply dm|split|assumption)
theorem Ng{p:MemS -> Prop}(hp:∀ (M:MemS) (i v:Int),p M -> p (M.set i v))(g:Gm)(M:MemS)(h:p M):p (eU g M).M:=by
 unfold eU
 repeat' (first|with_reducible assumption|with_reducible apply DX hp|with_reducible apply GR hp|with_reducible apply D2 hp|with_reducible apply Kx hp|with_reducible apply GZ hp|with_reducible apply G3 hp|with_reducible apply xg hp|with_reducible apply Ky hp|with_reducible apply bV|with_reducible apply bm|split)
theorem BR{p:MemS -> Prop}(hp:∀ (M:MemS) (i v:Int),p M -> p (M.set i v))(g:Gm):∀ (n:Nat) (M:MemS),p M -> p (fU g n M)
 | 0,_,h=>h
 | n+1,M,h=>by rw[fU,ji];exact BR hp g n _ (Ng hp g M h)
theorem Nh{p:MemS -> Prop}(hp:∀ (M:MemS) (i v:Int),p M -> p (M.set i v))(g:Gm)(M:MemS)(h:p M):p (gm g M):=BR hp g _ M h
def gO(cs:List Int)(es:List (Int × Int)):List Int:=es.foldr (λ e c=>c.set e.1.toNat e.2) cs
structure UndP(c:List Int)(M:MemS):Prop where
 und:gO M.cs M.lg=c
 len:M.cs.length=c.length
 ent:∀e∈M.lg,0 <= e.1 /\ e.1<(c.length:Int)
theorem UndP.set{c:List Int}(M:MemS)(i v:Int)(h:UndP c M):UndP c (M.set i v):=by
 unfold MemS.set;split
 ·next hi =>
  have hl:=h.len;refine⟨?_,by show (M.cs.set _ _).length=_;rw[List.length_set];exact hl,?_⟩
  ·show gO (M.cs.set _ _) (M.lg++[_])=c;unfold gO;rw[List.foldr_append];show M.lg.foldr _ ((M.cs.set i.toNat v).set i.toNat (M.cs.getD i.toNat 0))=c;have e:(M.cs.set i.toNat v).set i.toNat (M.cs.getD i.toNat 0)=M.cs:=by
    rw[List.set_set];apply List.ext_getElem?;intro k;rw[List.getElem?_set];split
    ·next e=>subst e;rw[if_pos (by omega),aaJ,abt (by omega)];rfl
    ·rfl
   rw[e];exact h.und
  ·intro e he;rcases List.mem_append.1 he with he|he
   ·exact h.ent e he
   ·rw[List.mem_singleton] at he;subst he;exact⟨by omega,by show i<_;omega⟩
 ·exact h
theorem z7(c:List Int)(b:Int):UndP c ⟨c,[],b⟩:=⟨rfl,rfl,λ _ h=>by cases h⟩
theorem Ni(g:Gm)(M:MemS):∃es,(gm g M).lg=M.lg++es /\ (gm g M).base=M.base /\ UndP M.cs ⟨(gm g M).cs,es,0⟩:=by
 have h:=Nh (p:=UndP M.cs) UndP.set g ⟨M.cs,[],0⟩ (z7 M.cs 0);have e:gm g M=(gm g ⟨M.cs,[],0⟩).sh M.lg M.base:=by rw[<- uU,ll]
 rw[e];refine⟨(gm g ⟨M.cs,[],0⟩).lg,rfl,rfl,?_⟩;exact⟨h.und,h.len,h.ent⟩
end Go.Proofs.YtdppjkjbghbnjaaGreatDoor
