import Derived.Test.YtdppjkjbghbnjaaGreatDoorZ07
set_option maxHeartbeats 4000000
set_option maxRecDepth 100000
set_option linter.all false
namespace Go.Proofs.YtdppjkjbghbnjaaGreatDoor
open IntKind
open Go.RowKit
def sG(t:Stp)(M:MemS):Con × Bool:=cG (t.S.body t.i.toNat).sh ⟨(ao t.S M t.i).px,(ao t.S M t.i).py⟩ (t.S.body t.j.toNat).sh ⟨(ao t.S M t.j).px,(ao t.S M t.j).py⟩
def xg(t:Stp)(M:MemS):Mot × Mot:=cH (ao t.S M t.i) (ao t.S M t.j) (sG t M).1 t.S.rest
def fE(t:Stp)(M:MemS):MemS:=((dm t t.j (xg t M).2 (dm t t.i (xg t M).1 M)).set (af t.S t.i+6) (bd (t.j+1))).set (af t.S t.j+6) (bd (t.i+1))
def dK(t:Stp)(M:MemS):MemS:=if 0 <= t.i /\ t.i<t.S.nb then if 0 <= t.j /\ t.j<t.S.nb then if (sG t M).2=true then fE t M else M else M else M
def sH(t:Stp)(M:MemS):Int:=mB (t.S.body t.i.toNat).sh ⟨(ao t.S M t.i).px,(ao t.S M t.i).py⟩ ⟨(ao t.S M t.i).vx,(ao t.S M t.i).vy⟩ (t.S.body t.j.toNat).sh ⟨(ao t.S M t.j).px,(ao t.S M t.j).py⟩ ⟨0,0⟩
def eL(t:Stp)(M:MemS):MemS:=if t.i=t.j then M else if movP t.S t.i then (if sH t M<M.get 5 then M.set 5 (sH t M) else M) else M
def fF(t:Stp)(M:MemS):MemS:=if bd (t.i+1)<t.S.nb then ((M.set 2 (bd (t.i+1))).set 3 0).set 5 1024 else (aL t 6 0 M).set 5 0
def dP(t:Stp)(M:MemS):MemS:=if 0 <= t.j /\ t.j<t.S.nb then (eL t M).set 3 (bd (t.j+1)) else fF t (if movP t.S t.i then cW t M else M)
def dz(i j n r:Int):Int × Int × Int:=if bd (j+1)<n then (r,i,bd (j+1)) else if bd (i+2)<n then (r,bd (i+1),bd (i+2)) else (bd (r+1),0,1)
def bH(t:Stp)(M:MemS):MemS:=if (t.S.nb:Int)<2 then (aL t 5 0 M).set 5 1024 else if M.get 4 >= t.S.rounds then (aL t 5 0 M).set 5 1024 else (((dK t M).set 4 (dz t.i t.j t.S.nb (M.get 4)).1).set 2 (dz t.i t.j t.S.nb (M.get 4)).2.1).set 3 (dz t.i t.j t.S.nb (M.get 4)).2.2
theorem z0(t:Stp)  (tb mb:Nat) (M:MemS) (k:Nat) (T F:HL) (hM:MemH mb M (k+10) T) (hS:SetIn F t.S) :Sp Tryz.prog 168 #[vP tb 0] (ap [(tb,.lit (Stp.l t mb) 238 (0,0))] [T]) F (λ u H'=>∃x,H'=ap [(tb,.lit (Stp.l t mb) 238 (0,0))] [x] /\ (MemH mb (dK t M) k x)):=by
 have hp:=hS.pl;have hn:=hS.nb;have hr:=hS.room;refine aat Tryz.func168 rfl (mc hS.blk mn) (A:=[(tb,.lit (Stp.l t mb) 238 (0,0))]) (Ts:=[T]) rfl λ w0=>?_;refine ae 8 [.own 0] λ _=>aah (qm t t.i tb mb _ (aA 0))<|ae 2 [] λ _=>aam (0 <= t.i /\ t.i<t.S.nb) 13 (λ h1=>?_) λ h1=>?_
 ·refine ae 5 [.own 0] λ _=>aah (qm t t.j tb mb _ (aA 0))<|ae 4 [] λ _=>aam (0 <= t.j /\ t.j<t.S.nb) 21 (λ h2=>?_) λ h2=>?_
  ·refine ae 4 [] λ _=>aak [14,15] []<|ag [] [0,1,6,7,2,8,3,9,4,10] (aab 2)<|aac [] 5 (λ X_=>(fK t t.i tb mb M _ T _ (fA 0) hS.up.up hM (aG 0) h1))<|aac [] 11 (λ X_=>(fK t t.j tb mb M _ T _ (fA 0) hS.up.up hM (aG 0) h2))<|lc (σ:=Nat × Nat) (λ ⟨n3,n4⟩=>⟨[(0,vP tb 0),(2,vP (n3+0) 0),(3,vP (n4+0) 0)],[((n4+0),.lit [vI ((ao t.S M t.j).px),vI ((ao t.S M t.j).py),vI ((ao t.S M t.j).vx),vI ((ao t.S M t.j).vy),vI ((ao t.S M t.j).inv)] 88 (0,0)),((n3+0),.lit [vI ((ao t.S M t.i).px),vI ((ao t.S M t.i).py),vI ((ao t.S M t.i).vx),vI ((ao t.S M t.i).vy),vI ((ao t.S M t.i).inv)] 88 (0,0)),(tb,.lit (Stp.l t mb) 238 (0,0))],[T],True,0⟩) ?_ ?_
   ·rintro⟨n3,n4⟩;refine ae 2 [] λ _=>aak [33] [0,1,2]<|aw [0,1,2] [0,5,12,14,19,26,1,6,13,15,20,27,2,7,16,21,3,8,17,22,4,18,9,23,10,24,11,25] [.own 1,.own 1,.own 0,.own 0,.own 2,.own 2,.own 2,.own 2,.ix ((t.i).toNat),.ix ((t.j).toNat),.rorow 0 (t.S.bo+((t.i).toNat)) 0,.rorow 0 (t.S.bo+((t.i).toNat)) 1,.rorow 0 (t.S.bo+((t.j).toNat)) 0,.rorow 0 (t.S.bo+((t.j).toNat)) 1] [((t.S.bo*9+((t.j).toNat)*9)+1)=(t.S.bo+((t.j).toNat))*9+1 /\ (t.S.bo+((t.j).toNat))<t.S.bR,(t.S.bo*9+((t.j).toNat)*9)=(t.S.bo+((t.j).toNat))*9+0 /\ (t.S.bo+((t.j).toNat))<t.S.bR,((t.S.bo*9+((t.i).toNat)*9)+1)=(t.S.bo+((t.i).toNat))*9+1 /\ (t.S.bo+((t.i).toNat))<t.S.bR,(t.S.bo*9+((t.i).toNat)*9)=(t.S.bo+((t.i).toNat))*9+0 /\ (t.S.bo+((t.i).toNat))<t.S.bR,t.j=(((t.j).toNat:Nat):Int) /\ (t.j).toNat<t.S.nb,t.i=(((t.i).toNat:Nat):Int) /\ (t.i).toNat<t.S.nb]<|aac [0,1,2] 28 (λ X_=>(pH (t.S.bods.getD (t.S.bo+((t.i).toNat)) dB).sh (⟨(ao t.S M t.i).px,(ao t.S M t.i).py⟩:V2) (t.S.bods.getD (t.S.bo+((t.j).toNat)) dB).sh (⟨(ao t.S M t.j).px,(ao t.S M t.j).py⟩:V2) _ ((hS.shp ((t.i).toNat) (by omega)).up.up) ((hS.shp ((t.j).toNat) (by omega)).up.up)))<|ag [0,1,2] [29,30,31] []<|aae 32 (aag [] [] λ n6=>?_);refine aae 33 (aag [1,2,3] (aab 3) λ _=>?_);refine ag [1,2,3] [34] []<|aad<|ae 8 [] λ _=>qG ((cG (t.S.bods.getD (t.S.bo+((t.i).toNat)) dB).sh (⟨(ao t.S M t.i).px,(ao t.S M t.i).py⟩:V2) (t.S.bods.getD (t.S.bo+((t.j).toNat)) dB).sh (⟨(ao t.S M t.j).px,(ao t.S M t.j).py⟩:V2)).2) 67 (λ h7=>?_) λ h7=>?_
    ·refine ae 4 [] λ _=>aak [12,13] [0,3]<|ag [0,3] [0,1,2,3,4,5,6,7] (ow 2 5++ow 1 5++[.own 0,.own 0,.own 0,.own 3])<|aac [0,3] 8 (λ X_=>(xf (ao t.S M t.i) (ao t.S M t.j) (cG (t.S.bods.getD (t.S.bo+((t.i).toNat)) dB).sh (⟨(ao t.S M t.i).px,(ao t.S M t.i).py⟩:V2) (t.S.bods.getD (t.S.bo+((t.j).toNat)) dB).sh (⟨(ao t.S M t.j).px,(ao t.S M t.j).py⟩:V2)).1 t.S.rest _))<|ag [0,3] [9,10,11] []<|aae 12 (aag [0,3] (ow 2 5) λ _=>?_);refine aae 13 (aag [0,3] (ow 1 5) λ _=>?_);refine aad<|ae 2 [] λ _=>aak [6] []<|ag [] [0,1,5,2,3,4] (ow 2 5++[.own 3])<|aae 6 (aaf [] [3] [0] (mA t t.i ((cH (ao t.S M t.i) (ao t.S M t.j) (cG (t.S.bods.getD (t.S.bo+((t.i).toNat)) dB).sh (⟨(ao t.S M t.i).px,(ao t.S M t.i).py⟩:V2) (t.S.bods.getD (t.S.bo+((t.j).toNat)) dB).sh (⟨(ao t.S M t.j).px,(ao t.S M t.j).py⟩:V2)).1 t.S.rest).1) tb mb M (k+6) T _ hM hS.up ) ?_);rintro _ T8 Vv;refine aad<|ae 2 [] λ _=>aak [6] []<|ag [] [0,1,5,2,3,4] (ow 2 5++[.own 0])<|aae 6 (aaf [] [0] [0] (mA t t.j ((cH (ao t.S M t.i) (ao t.S M t.j) (cG (t.S.bods.getD (t.S.bo+((t.i).toNat)) dB).sh (⟨(ao t.S M t.i).px,(ao t.S M t.i).py⟩:V2) (t.S.bods.getD (t.S.bo+((t.j).toNat)) dB).sh (⟨(ao t.S M t.j).px,(ao t.S M t.j).py⟩:V2)).1 t.S.rest).2) tb mb (dm t t.i ((cH (ao t.S M t.i) (ao t.S M t.j) (cG (t.S.bods.getD (t.S.bo+((t.i).toNat)) dB).sh (⟨(ao t.S M t.i).px,(ao t.S M t.i).py⟩:V2) (t.S.bods.getD (t.S.bo+((t.j).toNat)) dB).sh (⟨(ao t.S M t.j).px,(ao t.S M t.j).py⟩:V2)).1 t.S.rest).1) M) (k+2) T8 _ Vv hS.up ) ?_);rintro _ Tc So;refine aad<|ae 2 [] λ _=>aak [21] []<|ag [] [0,4,8,14,1,5,9,15,2,6,10,16,3,7,11,17,18,19,20] (ow 0 19)<|aac [] 12 (λ X_=>(cR t.S t.i _ hS.toSetN)) ?_;have amI:=cQ hS.toSetN t.i;refine aw [] [13] [.nw] [aZ ((af t.S t.i)+6)]<|aae 21 (aaf [] [] [0] (aj ((af t.S t.i)+6) (i64.wrap (t.j+1)) So) ?_);rintro _ Tb TE;refine aad<|ae 1 [] λ _=>aak [21] []<|ag [] [0,4,8,14,1,5,9,15,2,6,10,16,3,7,11,17,18,19,20] (ow 0 19)<|aac [] 12 (λ X_=>(cR t.S t.j _ hS.toSetN)) ?_;have amH:=cQ hS.toSetN t.j;refine aw [] [13] [.nw] [aZ ((af t.S t.j)+6)]<|aae 21 (aaf [] [] [0] (aj ((af t.S t.j)+6) (i64.wrap (t.i+1)) TE) ?_);rintro _ WX U5;refine aad<|aap [] [0] [0] (v:=.tuple #[]) (H':=(ap [(tb,.lit (Stp.l t mb) 238 (0,0))] [WX])) ?_;refine⟨WX,rfl,?_⟩;have e:dK t M=(((dm t t.j ((cH (ao t.S M t.i) (ao t.S M t.j) (cG (t.S.bods.getD (t.S.bo+((t.i).toNat)) dB).sh (⟨(ao t.S M t.i).px,(ao t.S M t.i).py⟩:V2) (t.S.bods.getD (t.S.bo+((t.j).toNat)) dB).sh (⟨(ao t.S M t.j).px,(ao t.S M t.j).py⟩:V2)).1 t.S.rest).2) (dm t t.i ((cH (ao t.S M t.i) (ao t.S M t.j) (cG (t.S.bods.getD (t.S.bo+((t.i).toNat)) dB).sh (⟨(ao t.S M t.i).px,(ao t.S M t.i).py⟩:V2) (t.S.bods.getD (t.S.bo+((t.j).toNat)) dB).sh (⟨(ao t.S M t.j).px,(ao t.S M t.j).py⟩:V2)).1 t.S.rest).1) M)).set ((af t.S t.i)+6) (i64.wrap (t.j+1))).set ((af t.S t.j)+6) (i64.wrap (t.i+1))):=by
      unfold dK;rw[if_pos (show 0 <= t.i /\ t.i<t.S.nb from h1),if_pos (show 0 <= t.j /\ t.j<t.S.nb from h2),if_pos (show (sG t M).2=true from h7)]
      first|done|rfl
     rw[e];exact U5.weak (by omega)
    ·refine ae 1 [] λ _=>aap [] [3] [0] (v:=.tuple #[]) (H':=(ap [(tb,.lit (Stp.l t mb) 238 (0,0))] [T])) ?_;refine⟨T,rfl,?_⟩;have e:dK t M=M:=by
      unfold dK;rw[if_pos (show 0 <= t.i /\ t.i<t.S.nb from h1),if_pos (show 0 <= t.j /\ t.j<t.S.nb from h2),if_neg (show ¬ ((sG t M).2=true) from h7)]
      first|done|rfl
     rw[e];exact hM.weak (by omega)
   ·intro Yj;refine gh 12 13 ?_ ?_
    ·refine aag [] [] λ n19=>aae 13 (aag [] [] λ Vp=>?_);refine aae 14 (aag [] (ow 1 5) λ _=>?_);refine aae 15 (aag [] (ow 0 5) λ _=>?_);exact Yj ⟨n19,Vp⟩ [0,1,2] [0]
    ·refine aag [] [] λ RK=>aae 12 (aag [] [] λ n22=>?_);refine aae 14 (aag [] (ow 0 5) λ _=>?_);refine aae 15 (aag [] (ow 1 5) λ _=>?_);exact Yj ⟨n22,RK⟩ [1,0,2] [0]
  ·refine ae 1 [] λ _=>aap [] [0] [0] (v:=.tuple #[]) (H':=(ap [(tb,.lit (Stp.l t mb) 238 (0,0))] [T])) ?_;refine⟨T,rfl,?_⟩;have e:dK t M=M:=by
    unfold dK;rw[if_pos (show 0 <= t.i /\ t.i<t.S.nb from h1),if_neg (show ¬ (0 <= t.j /\ t.j<t.S.nb) from h2)]
    first|done|rfl
   rw[e];exact hM.weak (by omega)
 ·refine ae 11 [] λ _=>aap [] [0] [0] (v:=.tuple #[]) (H':=(ap [(tb,.lit (Stp.l t mb) 238 (0,0))] [T])) ?_;refine⟨T,rfl,?_⟩;have e:dK t M=M:=by
   unfold dK;rw[if_neg (show ¬ (0 <= t.i /\ t.i<t.S.nb) from h1)]
   first|done|rfl
  rw[e];exact hM.weak (by omega)
theorem DH(t:Stp)  (tb mb:Nat) (M:MemS) (k:Nat) (T F:HL) (hM:MemH mb M (k+1) T) (hS:SetIn F t.S) (hj:0 <= t.j /\ t.j<t.S.nb):Sp Tryz.prog 171 #[vP tb 0] (ap [(tb,.lit (Stp.l t mb) 238 (0,0))] [T]) F (λ u H'=>∃x,H'=ap [(tb,.lit (Stp.l t mb) 238 (0,0))] [x] /\ (MemH mb (eL t M) k x)):=by
 have hp:=hS.pl;have hn:=hS.nb;have hr:=hS.room;refine aat Tryz.func171 rfl (mc hS.blk mn) (A:=[(tb,.lit (Stp.l t mb) 238 (0,0))]) (Ts:=[T]) rfl λ w0=>?_;refine ae 2 [] λ _=>aak [] []<|ag [] [0,4,1,5,2,6,3,7,8,9] (aab 2)<|RD.em (t.i=t.j) 14 (λ h1=>?_) λ h1=>?_
 ·refine ag [] [10,11,12,13,14,15,16,17] []<|aad<|ae 2 [] λ _=>aap [] [0] [0] (v:=.tuple #[]) (H':=(ap [(tb,.lit (Stp.l t mb) 238 (0,0))] [T])) ?_;refine⟨T,rfl,?_⟩;have e:eL t M=M:=by
   unfold eL;rw[if_pos (show t.i=t.j from h1)]
   first|done|rfl
  rw[e];exact hM.weak (by omega)
 ·refine ag [] [10,11,12,13,14] [.own 0]<|aac [] 15 (λ X_=>(jv t t.i tb mb _ (fA 0) hS.up.up))<|ag [] [16,17] []<|aad<|ae 1 [] λ _=>aam (movP t.S t.i) 22 (λ h2=>?_) λ h2=>?_
  ·have:=movP.has h2;refine ae 4 [] λ _=>aak [14,15] []<|ag [] [0,1,6,7,2,8,3,9,4,10] (aab 2)<|aac [] 5 (λ X_=>(fK t t.i tb mb M _ T _ (fA 0) hS.up.up hM (aG 0) (movP.has h2)))<|aac [] 11 (λ X_=>(fK t t.j tb mb M _ T _ (fA 0) hS.up.up hM (aG 0) hj))<|lc (σ:=Nat × Nat) (λ ⟨n3,n4⟩=>⟨[(0,vP tb 0),(2,vP (n3+0) 0),(3,vP (n4+0) 0)],[((n4+0),.lit [vI ((ao t.S M t.j).px),vI ((ao t.S M t.j).py),vI ((ao t.S M t.j).vx),vI ((ao t.S M t.j).vy),vI ((ao t.S M t.j).inv)] 88 (0,0)),((n3+0),.lit [vI ((ao t.S M t.i).px),vI ((ao t.S M t.i).py),vI ((ao t.S M t.i).vx),vI ((ao t.S M t.i).vy),vI ((ao t.S M t.i).inv)] 88 (0,0)),(tb,.lit (Stp.l t mb) 238 (0,0))],[T],True,0⟩) ?_ ?_
   ·rintro⟨n3,n4⟩;refine ae 2 [] λ _=>aak [] []<|aw [] [0,5,12,14,16,21,28,30,1,6,13,15,17,22,29,2,7,18,23,3,8,19,24,4,20,9,25,10,26,11,27] [.own 1,.own 1,.own 1,.own 1,.own 0,.own 0,.own 2,.own 2,.own 2,.own 2,.ix ((t.i).toNat),.ix ((t.j).toNat),.rorow 0 (t.S.bo+((t.i).toNat)) 0,.rorow 0 (t.S.bo+((t.i).toNat)) 1,.rorow 0 (t.S.bo+((t.j).toNat)) 0,.rorow 0 (t.S.bo+((t.j).toNat)) 1] [((t.S.bo*9+((t.j).toNat)*9)+1)=(t.S.bo+((t.j).toNat))*9+1 /\ (t.S.bo+((t.j).toNat))<t.S.bR,(t.S.bo*9+((t.j).toNat)*9)=(t.S.bo+((t.j).toNat))*9+0 /\ (t.S.bo+((t.j).toNat))<t.S.bR,((t.S.bo*9+((t.i).toNat)*9)+1)=(t.S.bo+((t.i).toNat))*9+1 /\ (t.S.bo+((t.i).toNat))<t.S.bR,(t.S.bo*9+((t.i).toNat)*9)=(t.S.bo+((t.i).toNat))*9+0 /\ (t.S.bo+((t.i).toNat))<t.S.bR,t.j=(((t.j).toNat:Nat):Int) /\ (t.j).toNat<t.S.nb,t.i=(((t.i).toNat:Nat):Int) /\ (t.i).toNat<t.S.nb]<|aac [] 31 (λ X_=>(uY (t.S.bods.getD (t.S.bo+((t.i).toNat)) dB).sh (⟨(ao t.S M t.i).px,(ao t.S M t.i).py⟩:V2) (⟨(ao t.S M t.i).vx,(ao t.S M t.i).vy⟩:V2) (t.S.bods.getD (t.S.bo+((t.j).toNat)) dB).sh (⟨(ao t.S M t.j).px,(ao t.S M t.j).py⟩:V2) (⟨0,0⟩:V2) _ ((hS.shp ((t.i).toNat) (by omega)).up.up) ((hS.shp ((t.j).toNat) (by omega)).up.up)))<|ag [] [32] []<|aad<|ae 8 [.own 2] λ _=>aah (az 5 hM (au 0))<|ae 3 [] λ _=>aal (mB (t.S.bods.getD (t.S.bo+((t.i).toNat)) dB).sh (⟨(ao t.S M t.i).px,(ao t.S M t.i).py⟩:V2) (⟨(ao t.S M t.i).vx,(ao t.S M t.i).vy⟩:V2) (t.S.bods.getD (t.S.bo+((t.j).toNat)) dB).sh (⟨(ao t.S M t.j).px,(ao t.S M t.j).py⟩:V2) (⟨0,0⟩:V2)<M.get 5) 73 (λ h5=>?_) λ h5=>?_
    ·refine ae 7 [.own 2] λ _=>aai [] [0] (aj 5 (mB (t.S.bods.getD (t.S.bo+((t.i).toNat)) dB).sh (⟨(ao t.S M t.i).px,(ao t.S M t.i).py⟩:V2) (⟨(ao t.S M t.i).vx,(ao t.S M t.i).vy⟩:V2) (t.S.bods.getD (t.S.bo+((t.j).toNat)) dB).sh (⟨(ao t.S M t.j).px,(ao t.S M t.j).py⟩:V2) (⟨0,0⟩:V2)) hM) ?_;rintro _ T6 XS;refine ae 1 [] λ _=>aap [] [2] [0] (v:=.tuple #[]) (H':=(ap [(tb,.lit (Stp.l t mb) 238 (0,0))] [T6])) ?_;refine⟨T6,rfl,?_⟩;have e:eL t M=(M.set 5 (mB (t.S.bods.getD (t.S.bo+((t.i).toNat)) dB).sh (⟨(ao t.S M t.i).px,(ao t.S M t.i).py⟩:V2) (⟨(ao t.S M t.i).vx,(ao t.S M t.i).vy⟩:V2) (t.S.bods.getD (t.S.bo+((t.j).toNat)) dB).sh (⟨(ao t.S M t.j).px,(ao t.S M t.j).py⟩:V2) (⟨0,0⟩:V2))):=by
      unfold eL;rw[if_neg (show ¬ (t.i=t.j) from h1),if_pos (show movP t.S t.i from h2),if_pos (show sH t M<M.get 5 from h5)]
      first|done|rfl
     rw[e];exact XS.weak (by omega)
    ·refine ae 2 [] λ _=>aap [] [2] [0] (v:=.tuple #[]) (H':=(ap [(tb,.lit (Stp.l t mb) 238 (0,0))] [T])) ?_;refine⟨T,rfl,?_⟩;have e:eL t M=M:=by
      unfold eL;rw[if_neg (show ¬ (t.i=t.j) from h1),if_pos (show movP t.S t.i from h2),if_neg (show ¬ (sH t M<M.get 5) from h5)]
      first|done|rfl
     rw[e];exact hM.weak (by omega)
   ·intro VV;refine gh 12 13 ?_ ?_
    ·refine aag [] [] λ n9=>aae 13 (aag [] [] λ TI=>?_);refine aae 14 (aag [] (ow 1 5) λ _=>?_);refine aae 15 (aag [] (ow 0 5) λ _=>?_);exact VV ⟨n9,TI⟩ [0,1,2] [0]
    ·refine aag [] [] λ n11=>aae 12 (aag [] [] λ n12=>?_);refine aae 14 (aag [] (ow 0 5) λ _=>?_);refine aae 15 (aag [] (ow 1 5) λ _=>?_);exact VV ⟨n12,n11⟩ [1,0,2] [0]
  ·refine ae 1 [] λ _=>aap [] [0] [0] (v:=.tuple #[]) (H':=(ap [(tb,.lit (Stp.l t mb) 238 (0,0))] [T])) ?_;refine⟨T,rfl,?_⟩;have e:eL t M=M:=by
    unfold eL;rw[if_neg (show ¬ (t.i=t.j) from h1),if_neg (show ¬ (movP t.S t.i) from h2)]
    first|done|rfl
   rw[e];exact hM.weak (by omega)
theorem DI(t:Stp)  (tb mb:Nat) (M:MemS) (k:Nat) (T F:HL) (hM:MemH mb M (k+8) T) (hS:SetIn F t.S) :Sp Tryz.prog 136 #[vP tb 0] (ap [(tb,.lit (Stp.l t mb) 238 (0,0))] [T]) F (λ u H'=>∃x,H'=ap [(tb,.lit (Stp.l t mb) 238 (0,0))] [x] /\ (MemH mb (dP t M) k x)):=by
 have hp:=hS.pl;have hn:=hS.nb;have hr:=hS.room;refine aat Tryz.func136 rfl (mc hS.blk mn) (A:=[(tb,.lit (Stp.l t mb) 238 (0,0))]) (Ts:=[T]) rfl λ w0=>?_;refine ae 8 [.own 0] λ _=>aah (qm t t.j tb mb _ (aA 0))<|ae 2 [] λ _=>aal (0 <= t.j /\ t.j<t.S.nb) 7 (λ h1=>?_) λ h1=>?_
 ·refine ae 4 [] λ _=>aai [0] [0] (DH t tb mb M (k+7) T _ hM hS.up (by assumption)) ?_;rintro _ T2 Ty;refine ae 3 [] λ _=>aak [11] []<|ag [] [0,4,1,5,2,6,3,7,8,9,10] (aab 2)<|aae 11 (aaf [] [] [0] (aj 3 (i64.wrap (t.j+1)) Ty) ?_);rintro _ T4 Ui;refine aad<|ae 1 [] λ _=>aap [] [0] [0] (v:=.tuple #[]) (H':=(ap [(tb,.lit (Stp.l t mb) 238 (0,0))] [T4])) ?_;refine⟨T4,rfl,?_⟩;have e:(dP t M)=((eL t M).set 3 (i64.wrap (t.j+1))):=by
   first|(simp only[dP,fF,if_pos h1];try rfl;done)|rfl
  rw[e];exact Ui.weak (by omega)
 ·refine ae 11 [.own 0] λ _=>aah (jv t t.i tb mb _ (aA 0) hS.up)<|ae 2 [] λ _=>aal (movP t.S t.i) 27 (λ h6=>?_) λ h6=>?_
  ·have:=movP.has h6;refine ae 3 [] λ _=>aai [0] [0] (zR t tb mb M (k+4) T _ hM hS.up (by assumption)) ?_;rintro _ T7 Uh;refine ae 4 [] λ _=>aak [] []<|ag [] [0,5,1,6,2,7,3,8,4,9,10,11] (aab 2)<|aad<|ae 1 [] λ _=>aal (i64.wrap (t.i+1)<(t.S.nb:Int)) 41 (λ h9=>?_) λ h9=>?_
   ·refine ae 2 [] λ _=>aak [11] []<|ag [] [0,4,1,5,2,6,3,7,8,9,10] (aab 2)<|aae 11 (aaf [] [] [0] (aj 2 (i64.wrap (t.i+1)) Uh) ?_);rintro _ Tc So;refine aad<|ae 7 [.own 0] λ _=>aai [] [0] (aj 3 0 So) ?_;rintro _ T12 WL;refine ae 8 [.own 0] λ _=>aai [] [0] (aj 5 1024 WL) ?_;rintro _ T14 U6;refine ae 2 [] λ _=>aap [] [0] [0] (v:=.tuple #[]) (H':=(ap [(tb,.lit (Stp.l t mb) 238 (0,0))] [T14])) ?_;refine⟨T14,rfl,?_⟩;have e:(dP t M)=((((cW t M).set 2 (i64.wrap (t.i+1))).set 3 0).set 5 1024):=by
     first|(simp only[dP,fF,if_neg h1,if_pos h6,if_pos h9];try rfl;done)|rfl
    rw[e];exact U6.weak (by omega)
   ·refine ae 6 [] λ _=>aai [0] [0] (bT t 6 0 tb mb (cW t M) (k+1) T7 _ Uh hS.up ) ?_;rintro _ WX U5;refine ae 7 [.own 0] λ _=>aai [] [0] (aj 5 0 U5) ?_;rintro _ T18 WK;refine ae 1 [] λ _=>aap [] [0] [0] (v:=.tuple #[]) (H':=(ap [(tb,.lit (Stp.l t mb) 238 (0,0))] [T18])) ?_;refine⟨T18,rfl,?_⟩;have e:(dP t M)=((aL t 6 0 (cW t M)).set 5 0):=by
     first|(simp only[dP,fF,if_neg h1,if_pos h6,if_neg h9];try rfl;done)|rfl
    rw[e];exact WK.weak (by omega)
  ·refine ae 5 [] λ _=>aak [] []<|ag [] [0,5,1,6,2,7,3,8,4,9,10,11] (aab 2)<|aad<|ae 1 [] λ _=>aal (i64.wrap (t.i+1)<(t.S.nb:Int)) 41 (λ h20=>?_) λ h20=>?_
   ·refine ae 2 [] λ _=>aak [11] []<|ag [] [0,4,1,5,2,6,3,7,8,9,10] (aab 2)<|aae 11 (aaf [] [] [0] (aj 2 (i64.wrap (t.i+1)) hM) ?_);rintro _ T21 XV;refine aad<|ae 7 [.own 0] λ _=>aai [] [0] (aj 3 0 XV) ?_;rintro _ Xb Z7;refine ae 8 [.own 0] λ _=>aai [] [0] (aj 5 1024 Z7) ?_;rintro _ YT Vx;refine ae 2 [] λ _=>aap [] [0] [0] (v:=.tuple #[]) (H':=(ap [(tb,.lit (Stp.l t mb) 238 (0,0))] [YT])) ?_;refine⟨YT,rfl,?_⟩;have e:(dP t M)=(((M.set 2 (i64.wrap (t.i+1))).set 3 0).set 5 1024):=by
     first|(simp only[dP,fF,if_neg h1,if_neg h6,if_pos h20];try rfl;done)|rfl
    rw[e];exact Vx.weak (by omega)
   ·refine ae 6 [] λ _=>aai [0] [0] (bT t 6 0 tb mb M (k+5) T _ hM hS.up ) ?_;rintro _ UL TA;refine ae 7 [.own 0] λ _=>aai [] [0] (aj 5 0 TA) ?_;rintro _ Yb Tw;refine ae 1 [] λ _=>aap [] [0] [0] (v:=.tuple #[]) (H':=(ap [(tb,.lit (Stp.l t mb) 238 (0,0))] [Yb])) ?_;refine⟨Yb,rfl,?_⟩;have e:(dP t M)=((aL t 6 0 M).set 5 0):=by
     first|(simp only[dP,fF,if_neg h1,if_neg h6,if_neg h20];try rfl;done)|rfl
    rw[e];exact Tw.weak (by omega)
theorem Gx(i j n r:Int)(q1 q2:Nat)(F:HL)(h1q:(q1,.lit [vI n] 3 (0,0))∈F)(h2q:(q2,.lit [vI r] 3 (0,0))∈F):Sp Tryz.prog 169 #[vI i,vI j,vP q1 0,vP q2 0] [] F (λ u H'=>u=.tuple #[vI ((dz i j n r).1),vI ((dz i j n r).2.1),vI ((dz i j n r).2.2)] /\ H'=[]):=by
 refine aat Tryz.func169 rfl (mc h1q (mc h2q mn)) (A:=[]) (Ts:=[]) rfl λ w0=>?_;refine ae 18 [.ro 0] λ _=>aal (i64.wrap (j+1)<n) 9 (λ h1=>?_) λ h1=>?_
 ·refine ae 12 [.ro 1] λ _=>aap [] [] [] (v:=.tuple #[vI r,vI i,vI (i64.wrap (j+1))]) (H':=[]) ?_;refine⟨?_,rfl⟩;simp only[dz,if_pos h1]
 ·refine ae 10 [.ro 0] λ _=>aal (i64.wrap (i+2)<n) 18 (λ h2=>?_) λ h2=>?_
  ·refine ae 13 [.ro 1] λ _=>aap [] [] [] (v:=.tuple #[vI r,vI (i64.wrap (i+1)),vI (i64.wrap (i+2))]) (H':=[]) ?_;refine⟨?_,rfl⟩;simp only[dz,if_neg h1,if_pos h2]
  ·refine ae 13 [.ro 1] λ _=>aap [] [] [] (v:=.tuple #[vI (i64.wrap (r+1)),vI 0,vI 1]) (H':=[]) ?_;refine⟨?_,rfl⟩;simp only[dz,if_neg h1,if_neg h2]
theorem uZ(t:Stp)  (tb mb:Nat) (M:MemS) (k:Nat) (T F:HL) (hM:MemH mb M (k+14) T) (hS:SetIn F t.S) :Sp Tryz.prog 135 #[vP tb 0] (ap [(tb,.lit (Stp.l t mb) 238 (0,0))] [T]) F (λ u H'=>∃x,H'=ap [(tb,.lit (Stp.l t mb) 238 (0,0))] [x] /\ (MemH mb (bH t M) k x)):=by
 have hp:=hS.pl;have hn:=hS.nb;have hr:=hS.room;refine aat Tryz.func135 rfl (mc hS.blk mn) (A:=[(tb,.lit (Stp.l t mb) 238 (0,0))]) (Ts:=[T]) rfl λ w0=>?_;refine ae 1 [] λ _=>aak [13,14] []<|ag [] [0,6,1,7,2,8,3,9,4,5] (aab 2)<|aac [] 10 (λ X_=>(az 4 hM (aG 0)))<|lc (σ:=Nat × Nat) (λ ⟨n1,n2⟩=>⟨[(0,vP tb 0),(2,vP (n1+0) 0),(3,vP (n2+0) 0)],[((n2+0),.lit [vI (M.get 4)] 3 (0,0)),((n1+0),.lit [vI (t.S.nb:Int)] 3 (0,0)),(tb,.lit (Stp.l t mb) 238 (0,0))],[T],True,0⟩) ?_ ?_
 ·rintro⟨n1,n2⟩;refine ae 3 [] λ _=>aak [] []<|ag [] [0,1,2] [.own 1]<|RD.em ((t.S.nb:Int)<2) 20 (λ h3=>?_) λ h3=>?_
  ·refine ag [] [3,4,5,6,7,8,9,10] []<|aad<|ae 5 [] λ _=>aai [2] [0] (bT t 5 0 tb mb M (k+11) T _ hM hS.up ) ?_;rintro _ T4 Ui;refine ae 8 [.own 0] λ _=>aai [] [0] (aj 5 1024 Ui) ?_;rintro _ T6 XS;refine ae 2 [] λ _=>aap [] [0] [0] (v:=.tuple #[]) (H':=(ap [(tb,.lit (Stp.l t mb) 238 (0,0))] [T6])) ?_;refine⟨T6,rfl,?_⟩;have e:(bH t M)=((aL t 5 0 M).set 5 1024):=by
    first|(simp only[bH,if_pos h3];try rfl;done)|rfl
   rw[e];exact XS.weak (by omega)
  ·refine ag [] [3,4,5,6,7,8,9,10] [.own 0,.own 2]<|aad<|ae 1 [] λ _=>aal (M.get 4 >= t.S.rounds) 28 (λ h8=>?_) λ h8=>?_
   ·refine ae 4 [] λ _=>aai [2] [0] (bT t 5 0 tb mb M (k+11) T _ hM hS.up ) ?_;rintro _ T9 SY;refine ae 8 [.own 0] λ _=>aai [] [0] (aj 5 1024 SY) ?_;rintro _ RM RI;refine ae 2 [] λ _=>aap [] [0] [0] (v:=.tuple #[]) (H':=(ap [(tb,.lit (Stp.l t mb) 238 (0,0))] [RM])) ?_;refine⟨RM,rfl,?_⟩;have e:(bH t M)=((aL t 5 0 M).set 5 1024):=by
     first|(simp only[bH,if_neg h3,if_pos h8];try rfl;done)|rfl
    rw[e];exact RI.weak (by omega)
   ·refine ae 6 [] λ _=>aai [2] [0] (z0 t tb mb M (k+4) T _ hM hS.up ) ?_;rintro _ Tb TE;refine ae 9 [] λ _=>aak [14] [0,2]<|ag [0,2] [0,1,5,2,6,3,7,4,8] (aab 2)<|aac [0,2] 9 (λ X_=>(Gx t.i t.j (t.S.nb:Int) (M.get 4) (n1+0) (n2+0) _ (fA 2) (fA 1)))<|ag [0,2] [10,11,12,13] []<|aae 14 (aag [0,2] [.own 1] λ _=>?_);refine ag [0,2] [15,16] []<|aad<|ae 2 [] λ _=>aak [5] []<|ag [] [0,4,1,2,3] [.own 1,.own 0]<|aae 5 (aaf [] [] [0] (aj 4 ((dz t.i t.j (t.S.nb:Int) (M.get 4)).1) TE) ?_);rintro _ S6 TC;refine aad<|ae 8 [.own 0] λ _=>aai [] [0] (aj 2 ((dz t.i t.j (t.S.nb:Int) (M.get 4)).2.1) TC) ?_;rintro _ SC R1;refine ae 8 [.own 0] λ _=>aai [] [0] (aj 3 ((dz t.i t.j (t.S.nb:Int) (M.get 4)).2.2) R1) ?_;rintro _ VC WJ;refine ae 1 [] λ _=>aap [] [0] [0] (v:=.tuple #[]) (H':=(ap [(tb,.lit (Stp.l t mb) 238 (0,0))] [VC])) ?_;refine⟨VC,rfl,?_⟩;have e:(bH t M)=((((dK t M).set 4 ((dz t.i t.j (t.S.nb:Int) (M.get 4)).1)).set 2 ((dz t.i t.j (t.S.nb:Int) (M.get 4)).2.1)).set 3 ((dz t.i t.j (t.S.nb:Int) (M.get 4)).2.2)):=by
     first|(simp only[bH,if_neg h3,if_neg h8];try rfl;done)|rfl
    rw[e];exact WJ.weak (by omega)
 ·intro Yi;refine gh 11 12 ?_ ?_
  ·refine aag [] [] λ n22=>aae 12 (aag [] [] λ n23=>?_);refine aae 13 (aag [] [.own 1] λ _=>?_);refine aae 14 (aag [] [.own 0] λ _=>?_);exact Yi ⟨n22,n23⟩ [0,1,2] [0]
  ·refine aag [] [] λ n24=>aae 11 (aag [] [] λ VT=>?_);refine aae 13 (aag [] [.own 0] λ _=>?_);refine aae 14 (aag [] [.own 1] λ _=>?_);exact Yi ⟨VT,n24⟩ [1,0,2] [0]
theorem Gy(t:Stp)  (tb mb:Nat) (M:MemS) (k:Nat) (T F:HL) (hM:MemH mb M (k+14) T) (hS:SetIn F t.S) :Sp Tryz.prog 138 #[vP tb 0] (ap [(tb,.lit (Stp.l t mb) 238 (0,0))] [T]) F (λ u H'=>∃x,H'=ap [(tb,.lit [.iface 113 (vP mb 0),vI t.S.players,vS t.S.bb (t.S.bo*9) t.S.nb t.S.bc,vI t.S.box.x0,vI t.S.box.y0,vI t.S.box.x1,vI t.S.box.y1,.slice t.S.rA t.S.rn t.S.rc,.slice t.S.dA t.S.dn t.S.dc,vI t.S.fog,vI t.S.g.x,vI t.S.g.y,vI t.S.push,vI t.S.drag,vI t.S.rest,vI t.S.rounds,vI t.S.fuel,.slice t.cA t.cn t.cc,vI t.e0,vI t.e1,vI t.e2,vI t.version,vS t.ib (t.io*3) t.ni t.ic,vI t.i,vI t.j,.bool (fP t),vI t.f0,vI t.f1,vI t.f2,vI t.f3,.bool t.emitted] 238 (0,0))] [x] /\ (MemH mb (du t M) k x)):=by
 have hp:=hS.pl;have hn:=hS.nb;have hr:=hS.room;refine aat Tryz.func138 rfl (mc hS.blk mn) (A:=[(tb,.lit (Stp.l t mb) 238 (0,0))]) (Ts:=[T]) rfl λ w0=>?_;refine ae 2 [] λ _=>aak [] []<|ag [] [0,4,1,5,2,6,3,7] (ow 0 17)<|aac [] 8 (λ X_=>(cR t.S t.i _ hS.toSetN)) ?_;have U2:=cQ hS.toSetN t.i;refine ag [] [9] []<|aad<|ae 7 [] λ _=>aal (af t.S t.i >= 0) 15 (λ h2=>?_) λ h2=>?_
 ·refine ai 15 [.own 0,.nw] [aZ ((af t.S t.i)+2)] λ _=>aah (az ((af t.S t.i)+2) hM (au 0))<|ae 2 [] λ _=>aal (M.get ((af t.S t.i)+2)=0) 24 (λ h3=>?_) λ h3=>?_
  ·refine ai 6 [.own 0,.nw] [aZ ((af t.S t.i)+3)] λ _=>aah (az ((af t.S t.i)+3) hM (au 0))<|ae 4 [] λ _=>aal (M.get ((af t.S t.i)+3)=0) 33 (λ h4=>?_) λ h4=>?_
   ·refine ai 8 [.own 0,.nw] [aZ ((af t.S t.i)+7)] λ _=>aah (az ((af t.S t.i)+7) hM (au 0))<|ai 13 [.own 0,.nw] [aZ ((af t.S t.i)+7)] λ _=>aai [] [0] (aj ((af t.S t.i)+7) (if 1000<i64.wrap ((M.get ((af t.S t.i)+7))+1) then 1000 else i64.wrap ((M.get ((af t.S t.i)+7))+1)) hM) ?_;rintro _ T5 Sn;refine ae 4 [] λ _=>aak [] []<|ag [] [0,5,1,6,2,7,3,8,4,9,10,11] (aab 2)<|aad<|ae 1 [] λ _=>aal (i64.wrap (t.i+1)<(t.S.nb:Int)) 62 (λ h7=>?_) λ h7=>?_
    ·refine ae 2 [] λ _=>aak [11] []<|ag [] [0,4,1,5,2,6,3,7,8,9,10] (aab 2)<|aae 11 (aaf [] [] [0] (aj 2 (i64.wrap (t.i+1)) Sn) ?_);rintro _ T8 Vv;refine aad<|ae 1 [] λ _=>aap [] [0] [0] (v:=.tuple #[]) (H':=(ap [(tb,.lit (Stp.l t mb) 238 (0,0))] [T8])) ?_;refine⟨T8,by simp only[fP,Stp.l,if_pos h2,if_pos h3,if_pos h4,if_pos h7],?_⟩;have e:(du t M)=((M.set ((af t.S t.i)+7) (if 1000<i64.wrap ((M.get ((af t.S t.i)+7))+1) then 1000 else i64.wrap ((M.get ((af t.S t.i)+7))+1))).set 2 (i64.wrap (t.i+1))):=by
      simp only[du,fQ,ga,if_pos h2,if_pos h3,if_pos h4,if_pos h7]
     rw[e];exact Vv.weak (by omega)
    ·refine ae 12 [.own 0] λ _=>aak [12] []<|ag [] [0,4,1,5,2,6,3,7,10,11] (aab 2)<|aac [] 8 (λ X_=>(az 0 Sn (aG 0)))<|ag [] [9] []<|aae 12 (aaf [] [] [0] (aj 0 (i64.wrap (((M.set ((af t.S t.i)+7) (if 1000<i64.wrap ((M.get ((af t.S t.i)+7))+1) then 1000 else i64.wrap ((M.get ((af t.S t.i)+7))+1))).get 0)+1)) Sn) ?_);rintro _ Tc So;refine aad<|ae 7 [] λ _=>aan (σ:=Nat × HL) (λ ⟨n,T_⟩=>⟨[(0,vP tb 0),(4,vI ((n+1:Nat):Int))],[(tb,.lit [.iface 113 (vP mb 0),vI t.S.players,vS t.S.bb (t.S.bo*9) t.S.nb t.S.bc,vI t.S.box.x0,vI t.S.box.y0,vI t.S.box.x1,vI t.S.box.y1,.slice t.S.rA t.S.rn t.S.rc,.slice t.S.dA t.S.dn t.S.dc,vI t.S.fog,vI t.S.g.x,vI t.S.g.y,vI t.S.push,vI t.S.drag,vI t.S.rest,vI t.S.rounds,vI t.S.fuel,.slice t.cA t.cn t.cc,vI t.e0,vI t.e1,vI t.e2,vI t.version,vS t.ib (t.io*3) t.ni t.ic,vI t.i,vI t.j,.bool true,vI t.f0,vI t.f1,vI t.f2,vI t.f3,.bool t.emitted] 238 (0,0))],[T_],n <= 10 /\ MemH mb (cE ((M.set ((af t.S t.i)+7) (if 1000<i64.wrap ((M.get ((af t.S t.i)+7))+1) then 1000 else i64.wrap ((M.get ((af t.S t.i)+7))+1))).set 0 (i64.wrap (((M.set ((af t.S t.i)+7) (if 1000<i64.wrap ((M.get ((af t.S t.i)+7))+1) then 1000 else i64.wrap ((M.get ((af t.S t.i)+7))+1))).get 0)+1))) n) (k+10-n) T_,10-n⟩) (0,Tc) [0] [0] (⟨by omega,So.weak (by omega)⟩) ?_;rintro⟨n,T_⟩ ⟨Xy,Uw⟩ VU;refine ae 7 [] λ _=>aal (((n+1:Nat):Int) <= 10) 92 (λ TN=>?_) λ TN=>?_
     ·obtain⟨e_,To⟩:∃e,k+10-n=e+1:=⟨k+9-n,by omega⟩;have U4:MemH mb (cE ((M.set ((af t.S t.i)+7) (if 1000<i64.wrap ((M.get ((af t.S t.i)+7))+1) then 1000 else i64.wrap ((M.get ((af t.S t.i)+7))+1))).set 0 (i64.wrap (((M.set ((af t.S t.i)+7) (if 1000<i64.wrap ((M.get ((af t.S t.i)+7))+1) then 1000 else i64.wrap ((M.get ((af t.S t.i)+7))+1))).get 0)+1))) n) (e_+1) T_:=To ▸ Uw;refine ae 11 [.own 0] λ _=>aai [] [0] (aj ((n+1:Nat):Int) 0 U4) ?_;rintro _ S6 TC;refine ai 8 [.nw] [aZ (((n+1:Nat):Int)+1)] λ _=>?_;refine VU (n+1,S6) [0] [0] ?_
      try dsimp only
      refine⟨⟨by omega,TC.cast (by rw[cE]) (by omega)⟩,by omega⟩
     ·refine ae 5 [] λ _=>aap [] [0] [0] (v:=.tuple #[]) (H':=(ap [(tb,.lit [.iface 113 (vP mb 0),vI t.S.players,vS t.S.bb (t.S.bo*9) t.S.nb t.S.bc,vI t.S.box.x0,vI t.S.box.y0,vI t.S.box.x1,vI t.S.box.y1,.slice t.S.rA t.S.rn t.S.rc,.slice t.S.dA t.S.dn t.S.dc,vI t.S.fog,vI t.S.g.x,vI t.S.g.y,vI t.S.push,vI t.S.drag,vI t.S.rest,vI t.S.rounds,vI t.S.fuel,.slice t.cA t.cn t.cc,vI t.e0,vI t.e1,vI t.e2,vI t.version,vS t.ib (t.io*3) t.ni t.ic,vI t.i,vI t.j,.bool true,vI t.f0,vI t.f1,vI t.f2,vI t.f3,.bool t.emitted] 238 (0,0))] [T_])) ?_;refine⟨T_,by simp only[fP,Stp.l,if_pos h2,if_pos h3,if_pos h4,if_neg h7,if_neg TN],?_⟩;have en:n=10:=by omega
      have e:(du t M)=(cE ((M.set ((af t.S t.i)+7) (if 1000<i64.wrap ((M.get ((af t.S t.i)+7))+1) then 1000 else i64.wrap ((M.get ((af t.S t.i)+7))+1))).set 0 (i64.wrap (((M.set ((af t.S t.i)+7) (if 1000<i64.wrap ((M.get ((af t.S t.i)+7))+1) then 1000 else i64.wrap ((M.get ((af t.S t.i)+7))+1))).get 0)+1))) n):=by
       rw[en];simp only[du,fQ,ga,if_pos h2,if_pos h3,if_pos h4,if_neg h7,if_neg TN]
      rw[e];exact Uw.weak (by omega)
   ·refine ai 11 [.own 0,.nw] [aZ ((af t.S t.i)+7)] λ _=>aai [] [0] (aj ((af t.S t.i)+7) 0 hM) ?_;rintro _ SC R1;refine ae 4 [] λ _=>aak [] []<|ag [] [0,5,1,6,2,7,3,8,4,9,10,11] (aab 2)<|aad<|ae 1 [] λ _=>aal (i64.wrap (t.i+1)<(t.S.nb:Int)) 62 (λ h19=>?_) λ h19=>?_
    ·refine ae 2 [] λ _=>aak [11] []<|ag [] [0,4,1,5,2,6,3,7,8,9,10] (aab 2)<|aae 11 (aaf [] [] [0] (aj 2 (i64.wrap (t.i+1)) R1) ?_);rintro _ Vm WI;refine aad<|ae 1 [] λ _=>aap [] [0] [0] (v:=.tuple #[]) (H':=(ap [(tb,.lit (Stp.l t mb) 238 (0,0))] [Vm])) ?_;refine⟨Vm,by simp only[fP,Stp.l,if_pos h2,if_pos h3,if_neg h4,if_pos h19],?_⟩;have e:(du t M)=((M.set ((af t.S t.i)+7) 0).set 2 (i64.wrap (t.i+1))):=by
      simp only[du,fQ,ga,if_pos h2,if_pos h3,if_neg h4,if_pos h19]
     rw[e];exact WI.weak (by omega)
    ·refine ae 12 [.own 0] λ _=>aak [12] []<|ag [] [0,4,1,5,2,6,3,7,10,11] (aab 2)<|aac [] 8 (λ X_=>(az 0 R1 (aG 0)))<|ag [] [9] []<|aae 12 (aaf [] [] [0] (aj 0 (i64.wrap (((M.set ((af t.S t.i)+7) 0).get 0)+1)) R1) ?_);rintro _ VN WH;refine aad<|ae 7 [] λ _=>aan (σ:=Nat × HL) (λ ⟨n,T_⟩=>⟨[(0,vP tb 0),(4,vI ((n+1:Nat):Int))],[(tb,.lit [.iface 113 (vP mb 0),vI t.S.players,vS t.S.bb (t.S.bo*9) t.S.nb t.S.bc,vI t.S.box.x0,vI t.S.box.y0,vI t.S.box.x1,vI t.S.box.y1,.slice t.S.rA t.S.rn t.S.rc,.slice t.S.dA t.S.dn t.S.dc,vI t.S.fog,vI t.S.g.x,vI t.S.g.y,vI t.S.push,vI t.S.drag,vI t.S.rest,vI t.S.rounds,vI t.S.fuel,.slice t.cA t.cn t.cc,vI t.e0,vI t.e1,vI t.e2,vI t.version,vS t.ib (t.io*3) t.ni t.ic,vI t.i,vI t.j,.bool true,vI t.f0,vI t.f1,vI t.f2,vI t.f3,.bool t.emitted] 238 (0,0))],[T_],n <= 10 /\ MemH mb (cE ((M.set ((af t.S t.i)+7) 0).set 0 (i64.wrap (((M.set ((af t.S t.i)+7) 0).get 0)+1))) n) (k+10-n) T_,10-n⟩) (0,VN) [0] [0] (⟨by omega,WH.weak (by omega)⟩) ?_;rintro⟨n,T_⟩ ⟨Xy,Uw⟩ aeK;refine ae 7 [] λ _=>aal (((n+1:Nat):Int) <= 10) 92 (λ SB=>?_) λ SB=>?_
     ·obtain⟨e_,To⟩:∃e,k+10-n=e+1:=⟨k+9-n,by omega⟩;have U4:MemH mb (cE ((M.set ((af t.S t.i)+7) 0).set 0 (i64.wrap (((M.set ((af t.S t.i)+7) 0).get 0)+1))) n) (e_+1) T_:=To ▸ Uw;refine ae 11 [.own 0] λ _=>aai [] [0] (aj ((n+1:Nat):Int) 0 U4) ?_;rintro _ UL TA;refine ai 8 [.nw] [aZ (((n+1:Nat):Int)+1)] λ _=>?_;refine aeK (n+1,UL) [0] [0] ?_
      try dsimp only
      refine⟨⟨by omega,TA.cast (by rw[cE]) (by omega)⟩,by omega⟩
     ·refine ae 5 [] λ _=>aap [] [0] [0] (v:=.tuple #[]) (H':=(ap [(tb,.lit [.iface 113 (vP mb 0),vI t.S.players,vS t.S.bb (t.S.bo*9) t.S.nb t.S.bc,vI t.S.box.x0,vI t.S.box.y0,vI t.S.box.x1,vI t.S.box.y1,.slice t.S.rA t.S.rn t.S.rc,.slice t.S.dA t.S.dn t.S.dc,vI t.S.fog,vI t.S.g.x,vI t.S.g.y,vI t.S.push,vI t.S.drag,vI t.S.rest,vI t.S.rounds,vI t.S.fuel,.slice t.cA t.cn t.cc,vI t.e0,vI t.e1,vI t.e2,vI t.version,vS t.ib (t.io*3) t.ni t.ic,vI t.i,vI t.j,.bool true,vI t.f0,vI t.f1,vI t.f2,vI t.f3,.bool t.emitted] 238 (0,0))] [T_])) ?_;refine⟨T_,by simp only[fP,Stp.l,if_pos h2,if_pos h3,if_neg h4,if_neg h19,if_neg SB],?_⟩;have en:n=10:=by omega
      have e:(du t M)=(cE ((M.set ((af t.S t.i)+7) 0).set 0 (i64.wrap (((M.set ((af t.S t.i)+7) 0).get 0)+1))) n):=by
       rw[en];simp only[du,fQ,ga,if_pos h2,if_pos h3,if_neg h4,if_neg h19,if_neg SB]
      rw[e];exact Uw.weak (by omega)
  ·refine ai 22 [.own 0,.nw] [aZ ((af t.S t.i)+7)] λ _=>aai [] [0] (aj ((af t.S t.i)+7) 0 hM) ?_;rintro _ Yb Tw;refine ae 4 [] λ _=>aak [] []<|ag [] [0,5,1,6,2,7,3,8,4,9,10,11] (aab 2)<|aad<|ae 1 [] λ _=>aal (i64.wrap (t.i+1)<(t.S.nb:Int)) 62 (λ U8=>?_) λ U8=>?_
   ·refine ae 2 [] λ _=>aak [11] []<|ag [] [0,4,1,5,2,6,3,7,8,9,10] (aab 2)<|aae 11 (aaf [] [] [0] (aj 2 (i64.wrap (t.i+1)) Tw) ?_);rintro _ WW Vw;refine aad<|ae 1 [] λ _=>aap [] [0] [0] (v:=.tuple #[]) (H':=(ap [(tb,.lit (Stp.l t mb) 238 (0,0))] [WW])) ?_;refine⟨WW,by simp only[fP,Stp.l,if_pos h2,if_neg h3,if_pos U8],?_⟩;have e:(du t M)=((M.set ((af t.S t.i)+7) 0).set 2 (i64.wrap (t.i+1))):=by
     simp only[du,fQ,ga,if_pos h2,if_neg h3,if_pos U8]
    rw[e];exact Vw.weak (by omega)
   ·refine ae 12 [.own 0] λ _=>aak [12] []<|ag [] [0,4,1,5,2,6,3,7,10,11] (aab 2)<|aac [] 8 (λ X_=>(az 0 Tw (aG 0)))<|ag [] [9] []<|aae 12 (aaf [] [] [0] (aj 0 (i64.wrap (((M.set ((af t.S t.i)+7) 0).get 0)+1)) Tw) ?_);rintro _ T34 XU;refine aad<|ae 7 [] λ _=>aan (σ:=Nat × HL) (λ ⟨n,T_⟩=>⟨[(0,vP tb 0),(4,vI ((n+1:Nat):Int))],[(tb,.lit [.iface 113 (vP mb 0),vI t.S.players,vS t.S.bb (t.S.bo*9) t.S.nb t.S.bc,vI t.S.box.x0,vI t.S.box.y0,vI t.S.box.x1,vI t.S.box.y1,.slice t.S.rA t.S.rn t.S.rc,.slice t.S.dA t.S.dn t.S.dc,vI t.S.fog,vI t.S.g.x,vI t.S.g.y,vI t.S.push,vI t.S.drag,vI t.S.rest,vI t.S.rounds,vI t.S.fuel,.slice t.cA t.cn t.cc,vI t.e0,vI t.e1,vI t.e2,vI t.version,vS t.ib (t.io*3) t.ni t.ic,vI t.i,vI t.j,.bool true,vI t.f0,vI t.f1,vI t.f2,vI t.f3,.bool t.emitted] 238 (0,0))],[T_],n <= 10 /\ MemH mb (cE ((M.set ((af t.S t.i)+7) 0).set 0 (i64.wrap (((M.set ((af t.S t.i)+7) 0).get 0)+1))) n) (k+10-n) T_,10-n⟩) (0,T34) [0] [0] (⟨by omega,XU.weak (by omega)⟩) ?_;rintro⟨n,T_⟩ ⟨Xy,Uw⟩ aeJ;refine ae 7 [] λ _=>aal (((n+1:Nat):Int) <= 10) 92 (λ h38=>?_) λ h38=>?_
    ·obtain⟨e_,To⟩:∃e,k+10-n=e+1:=⟨k+9-n,by omega⟩;have U4:MemH mb (cE ((M.set ((af t.S t.i)+7) 0).set 0 (i64.wrap (((M.set ((af t.S t.i)+7) 0).get 0)+1))) n) (e_+1) T_:=To ▸ Uw;refine ae 11 [.own 0] λ _=>aai [] [0] (aj ((n+1:Nat):Int) 0 U4) ?_;rintro _ Ya Uc;refine ai 8 [.nw] [aZ (((n+1:Nat):Int)+1)] λ _=>?_;refine aeJ (n+1,Ya) [0] [0] ?_
     try dsimp only
     refine⟨⟨by omega,Uc.cast (by rw[cE]) (by omega)⟩,by omega⟩
    ·refine ae 5 [] λ _=>aap [] [0] [0] (v:=.tuple #[]) (H':=(ap [(tb,.lit [.iface 113 (vP mb 0),vI t.S.players,vS t.S.bb (t.S.bo*9) t.S.nb t.S.bc,vI t.S.box.x0,vI t.S.box.y0,vI t.S.box.x1,vI t.S.box.y1,.slice t.S.rA t.S.rn t.S.rc,.slice t.S.dA t.S.dn t.S.dc,vI t.S.fog,vI t.S.g.x,vI t.S.g.y,vI t.S.push,vI t.S.drag,vI t.S.rest,vI t.S.rounds,vI t.S.fuel,.slice t.cA t.cn t.cc,vI t.e0,vI t.e1,vI t.e2,vI t.version,vS t.ib (t.io*3) t.ni t.ic,vI t.i,vI t.j,.bool true,vI t.f0,vI t.f1,vI t.f2,vI t.f3,.bool t.emitted] 238 (0,0))] [T_])) ?_;refine⟨T_,by simp only[fP,Stp.l,if_pos h2,if_neg h3,if_neg U8,if_neg h38],?_⟩;have en:n=10:=by omega
     have e:(du t M)=(cE ((M.set ((af t.S t.i)+7) 0).set 0 (i64.wrap (((M.set ((af t.S t.i)+7) 0).get 0)+1))) n):=by
      rw[en];simp only[du,fQ,ga,if_pos h2,if_neg h3,if_neg U8,if_neg h38]
     rw[e];exact Uw.weak (by omega)
 ·refine ae 5 [] λ _=>aak [] []<|ag [] [0,5,1,6,2,7,3,8,4,9,10,11] (aab 2)<|aad<|ae 1 [] λ _=>aal (i64.wrap (t.i+1)<(t.S.nb:Int)) 62 (λ SA=>?_) λ SA=>?_
  ·refine ae 2 [] λ _=>aak [11] []<|ag [] [0,4,1,5,2,6,3,7,8,9,10] (aab 2)<|aae 11 (aaf [] [] [0] (aj 2 (i64.wrap (t.i+1)) hM) ?_);rintro _ X9 WC;refine aad<|ae 1 [] λ _=>aap [] [0] [0] (v:=.tuple #[]) (H':=(ap [(tb,.lit (Stp.l t mb) 238 (0,0))] [X9])) ?_;refine⟨X9,by simp only[fP,Stp.l,if_neg h2,if_pos SA],?_⟩;have e:(du t M)=(M.set 2 (i64.wrap (t.i+1))):=by
    simp only[du,fQ,ga,if_neg h2,if_pos SA]
   rw[e];exact WC.weak (by omega)
  ·refine ae 12 [.own 0] λ _=>aak [12] []<|ag [] [0,4,1,5,2,6,3,7,10,11] (aab 2)<|aac [] 8 (λ X_=>(az 0 hM (aG 0)))<|ag [] [9] []<|aae 12 (aaf [] [] [0] (aj 0 (i64.wrap ((M.get 0)+1)) hM) ?_);rintro _ T44 WB;refine aad<|ae 7 [] λ _=>aan (σ:=Nat × HL) (λ ⟨n,T_⟩=>⟨[(0,vP tb 0),(4,vI ((n+1:Nat):Int))],[(tb,.lit [.iface 113 (vP mb 0),vI t.S.players,vS t.S.bb (t.S.bo*9) t.S.nb t.S.bc,vI t.S.box.x0,vI t.S.box.y0,vI t.S.box.x1,vI t.S.box.y1,.slice t.S.rA t.S.rn t.S.rc,.slice t.S.dA t.S.dn t.S.dc,vI t.S.fog,vI t.S.g.x,vI t.S.g.y,vI t.S.push,vI t.S.drag,vI t.S.rest,vI t.S.rounds,vI t.S.fuel,.slice t.cA t.cn t.cc,vI t.e0,vI t.e1,vI t.e2,vI t.version,vS t.ib (t.io*3) t.ni t.ic,vI t.i,vI t.j,.bool true,vI t.f0,vI t.f1,vI t.f2,vI t.f3,.bool t.emitted] 238 (0,0))],[T_],n <= 10 /\ MemH mb (cE (M.set 0 (i64.wrap ((M.get 0)+1))) n) (k+10-n) T_,10-n⟩) (0,T44) [0] [0] (⟨by omega,WB.weak (by omega)⟩) ?_;rintro⟨n,T_⟩ ⟨Xy,Uw⟩ aeH;refine ae 7 [] λ _=>aal (((n+1:Nat):Int) <= 10) 92 (λ Vz=>?_) λ Vz=>?_
   ·obtain⟨e_,To⟩:∃e,k+10-n=e+1:=⟨k+9-n,by omega⟩;have U4:MemH mb (cE (M.set 0 (i64.wrap ((M.get 0)+1))) n) (e_+1) T_:=To ▸ Uw;refine ae 11 [.own 0] λ _=>aai [] [0] (aj ((n+1:Nat):Int) 0 U4) ?_;rintro _ X8 Ub;refine ai 8 [.nw] [aZ (((n+1:Nat):Int)+1)] λ _=>?_;refine aeH (n+1,X8) [0] [0] ?_
    try dsimp only
    refine⟨⟨by omega,Ub.cast (by rw[cE]) (by omega)⟩,by omega⟩
   ·refine ae 5 [] λ _=>aap [] [0] [0] (v:=.tuple #[]) (H':=(ap [(tb,.lit [.iface 113 (vP mb 0),vI t.S.players,vS t.S.bb (t.S.bo*9) t.S.nb t.S.bc,vI t.S.box.x0,vI t.S.box.y0,vI t.S.box.x1,vI t.S.box.y1,.slice t.S.rA t.S.rn t.S.rc,.slice t.S.dA t.S.dn t.S.dc,vI t.S.fog,vI t.S.g.x,vI t.S.g.y,vI t.S.push,vI t.S.drag,vI t.S.rest,vI t.S.rounds,vI t.S.fuel,.slice t.cA t.cn t.cc,vI t.e0,vI t.e1,vI t.e2,vI t.version,vS t.ib (t.io*3) t.ni t.ic,vI t.i,vI t.j,.bool true,vI t.f0,vI t.f1,vI t.f2,vI t.f3,.bool t.emitted] 238 (0,0))] [T_])) ?_;refine⟨T_,by simp only[fP,Stp.l,if_neg h2,if_neg SA,if_neg Vz],?_⟩;have en:n=10:=by omega
    have e:(du t M)=(cE (M.set 0 (i64.wrap ((M.get 0)+1))) n):=by
     rw[en];simp only[du,fQ,ga,if_neg h2,if_neg SA,if_neg Vz]
    rw[e];exact Uw.weak (by omega)
structure Gm where
 S:Setup
 cA:Option Addr
 cn:Nat
 cc:Nat
 e0:Int
 e1:Int
 e2:Int
 version:Int
 ib:Nat
 io:Nat
 ni:Nat
 ic:Nat
 iR:Nat
 ins:List Inp
 code:List Ins
abbrev Gm.step(g:Gm)(M:MemS):Stp:=⟨g.S,g.cA,g.cn,g.cc,g.e0,g.e1,g.e2,g.version,g.ib,g.io,g.ni,g.ic,g.iR,g.ins,M.get 2,M.get 3,false,0,0,0,0,false,g.code⟩
theorem Ns(g:Gm)(mb:Nat)(M:MemS)(k:Nat)(T F:HL)(hM:MemH mb M (k+20) T)(hS:SetIn F g.S)(hp:M.get 1=0)(hI:(g.ib,.rows 3 g.iR (kM g.ins) 40 (0,0))∈F)(hir:g.io+g.ni <= g.iR /\ g.ni <= 1000000):Sp Tryz.prog 107 #[.iface 113 (vP mb 0),.agg #[vI g.S.players,vS g.S.bb (g.S.bo*9) g.S.nb g.S.bc,vI g.S.box.x0,vI g.S.box.y0,vI g.S.box.x1,vI g.S.box.y1,.slice g.S.rA g.S.rn g.S.rc,.slice g.S.dA g.S.dn g.S.dc,vI g.S.fog,vI g.S.g.x,vI g.S.g.y,vI g.S.push,vI g.S.drag,vI g.S.rest,vI g.S.rounds,vI g.S.fuel],.agg #[.slice g.cA g.cn g.cc,vI g.e0,vI g.e1,vI g.e2],vI g.version,vS g.ib (g.io*3) g.ni g.ic] (ap [] [T]) F (λ u H'=>∃x,H'=ap [] [x] /\ (MemH mb (aQ (g.step M) M) k x /\ u=.tuple #[.bool false,.agg #[vI 0,vI 0,vI 0,vI 0],.bool false])):=by
 refine aat Tryz.func107 rfl mn (A:=[]) (Ts:=[T]) rfl λ w0=>?_;refine ae 29 (ow 0 8) λ n1=>aah (ju 1 hp hM (au 0))<|ae 18 [] λ _=>aak [] []<|ag [] [0,1,2,3,4,5,7] (ow 3 16++[.own 2,.own 2,.own 2,.own 2])<|aac [] 6 (λ X_=>(az 2 hM (aG 0)))<|aac [] 8 (λ X_=>(az 3 hM (aG 0)))<|ag [] [9] []<|aae 10 (aag [] [] λ n2=>?_);refine ag [] [11] []<|aad<|ae 7 [.own 1] λ _=>aai [0] [0] (Dx (g.step M) (n2+0) mb M (k+12) T _ hM hS.up (aav _ hI) hir) ?_;rintro _ T3 ID;refine ae 3 [] λ _=>aak [13] [0,1,3,4]<|ag [0,1,3,4] [0,4,8,1,5,9,2,6,10,3,7,11,12] (ow 0 5++[.ro 0])<|aae 13 (aag [0,1,3,4] [.own 2,.own 2,.own 2,.own 2] λ _=>?_);refine ag [0,1,3,4] [14] []<|aad<|ae 1 [] λ _=>aap [.own 2,.own 2,.own 2,.own 2] [] [0] (v:=.tuple #[.bool false,.agg #[vI 0,vI 0,vI 0,vI 0],.bool false]) (H':=(ap [] [T3])) ?_;exact⟨T3,rfl,ID.weak (by omega),rfl⟩
theorem Nt(g:Gm)(mb:Nat)(M:MemS)(k:Nat)(T F:HL)(hM:MemH mb M (k+20) T)(hS:SetIn F g.S)(hp:M.get 1=1)(hE:cz F)(hC:CodeIn F g.code g.cA g.cn):Sp Tryz.prog 107 #[.iface 113 (vP mb 0),.agg #[vI g.S.players,vS g.S.bb (g.S.bo*9) g.S.nb g.S.bc,vI g.S.box.x0,vI g.S.box.y0,vI g.S.box.x1,vI g.S.box.y1,.slice g.S.rA g.S.rn g.S.rc,.slice g.S.dA g.S.dn g.S.dc,vI g.S.fog,vI g.S.g.x,vI g.S.g.y,vI g.S.push,vI g.S.drag,vI g.S.rest,vI g.S.rounds,vI g.S.fuel],.agg #[.slice g.cA g.cn g.cc,vI g.e0,vI g.e1,vI g.e2],vI g.version,vS g.ib (g.io*3) g.ni g.ic] (ap [] [T]) F (λ u H'=>∃x,H'=ap [] [x] /\ (MemH mb (eV (g.step M) M).M k x /\ u=.tuple #[.bool false,.agg (aaa (eV (g.step M) M).e).toArray,.bool ((eV (g.step M) M).em)])):=by
 refine aat Tryz.func107 rfl mn (A:=[]) (Ts:=[T]) rfl λ w0=>?_;refine ae 29 (ow 0 8) λ n1=>aah (ju 1 hp hM (au 0))<|ae 18 [] λ _=>aak [] []<|ag [] [0,1,2,3,4,5,7] (ow 3 16++[.own 2,.own 2,.own 2,.own 2])<|aac [] 6 (λ X_=>(az 2 hM (aG 0)))<|aac [] 8 (λ X_=>(az 3 hM (aG 0)))<|ag [] [9] []<|aae 10 (aag [] [] λ n2=>?_);refine ag [] [11] []<|aad<|ae 7 [.own 1] λ _=>aai [0] [0] (Py (g.step M) (n2+0) mb M (k+11) T _ hM hS.up (av hE) hC.up) ?_;rintro _ T3 ID;refine ae 3 [] λ _=>aak [13] [0,1,3,4]<|ag [0,1,3,4] [0,4,8,1,5,9,2,6,10,3,7,11,12] (ow 0 5++[.ro 0])<|aae 13 (aag [0,1,3,4] [.own 2,.own 2,.own 2,.own 2] λ _=>?_);refine ag [0,1,3,4] [14] []<|aad<|ae 1 [] λ _=>aap [.own 2,.own 2,.own 2,.own 2] [] [0] (v:=.tuple #[.bool false,.agg (aaa (eV (g.step M) M).e).toArray,.bool ((eV (g.step M) M).em)]) (H':=(ap [] [T3])) ?_;exact⟨T3,rfl,ID.weak (by omega),rfl⟩
theorem Nw(g:Gm)(mb:Nat)(M:MemS)(k:Nat)(T F:HL)(hM:MemH mb M (k+20) T)(hS:SetIn F g.S)(hp:M.get 1=2)(hE:cz F)(hC:CodeIn F g.code g.cA g.cn):Sp Tryz.prog 107 #[.iface 113 (vP mb 0),.agg #[vI g.S.players,vS g.S.bb (g.S.bo*9) g.S.nb g.S.bc,vI g.S.box.x0,vI g.S.box.y0,vI g.S.box.x1,vI g.S.box.y1,.slice g.S.rA g.S.rn g.S.rc,.slice g.S.dA g.S.dn g.S.dc,vI g.S.fog,vI g.S.g.x,vI g.S.g.y,vI g.S.push,vI g.S.drag,vI g.S.rest,vI g.S.rounds,vI g.S.fuel],.agg #[.slice g.cA g.cn g.cc,vI g.e0,vI g.e1,vI g.e2],vI g.version,vS g.ib (g.io*3) g.ni g.ic] (ap [] [T]) F (λ u H'=>∃x,H'=ap [] [x] /\ (MemH mb (cT (g.step M) M).M k x /\ u=.tuple #[.bool false,.agg (aaa (cT (g.step M) M).e).toArray,.bool ((cT (g.step M) M).em)])):=by
 refine aat Tryz.func107 rfl mn (A:=[]) (Ts:=[T]) rfl λ w0=>?_;refine ae 29 (ow 0 8) λ n1=>aah (ju 1 hp hM (au 0))<|ae 18 [] λ _=>aak [] []<|ag [] [0,1,2,3,4,5,7] (ow 3 16++[.own 2,.own 2,.own 2,.own 2])<|aac [] 6 (λ X_=>(az 2 hM (aG 0)))<|aac [] 8 (λ X_=>(az 3 hM (aG 0)))<|ag [] [9] []<|aae 10 (aag [] [] λ n2=>?_);refine ag [] [11] []<|aad<|ae 7 [.own 1] λ _=>aai [0] [0] (Nr (g.step M) (n2+0) mb M (k+11) T _ hM hS.up (av hE) hC.up) ?_;rintro _ T3 ID;refine ae 3 [] λ _=>aak [13] [0,1,3,4]<|ag [0,1,3,4] [0,4,8,1,5,9,2,6,10,3,7,11,12] (ow 0 5++[.ro 0])<|aae 13 (aag [0,1,3,4] [.own 2,.own 2,.own 2,.own 2] λ _=>?_);refine ag [0,1,3,4] [14] []<|aad<|ae 1 [] λ _=>aap [.own 2,.own 2,.own 2,.own 2] [] [0] (v:=.tuple #[.bool false,.agg (aaa (cT (g.step M) M).e).toArray,.bool ((cT (g.step M) M).em)]) (H':=(ap [] [T3])) ?_;exact⟨T3,rfl,ID.weak (by omega),rfl⟩
theorem Ny(g:Gm)(mb:Nat)(M:MemS)(k:Nat)(T F:HL)(hM:MemH mb M (k+20) T)(hS:SetIn F g.S)(hp:M.get 1=3) :Sp Tryz.prog 107 #[.iface 113 (vP mb 0),.agg #[vI g.S.players,vS g.S.bb (g.S.bo*9) g.S.nb g.S.bc,vI g.S.box.x0,vI g.S.box.y0,vI g.S.box.x1,vI g.S.box.y1,.slice g.S.rA g.S.rn g.S.rc,.slice g.S.dA g.S.dn g.S.dc,vI g.S.fog,vI g.S.g.x,vI g.S.g.y,vI g.S.push,vI g.S.drag,vI g.S.rest,vI g.S.rounds,vI g.S.fuel],.agg #[.slice g.cA g.cn g.cc,vI g.e0,vI g.e1,vI g.e2],vI g.version,vS g.ib (g.io*3) g.ni g.ic] (ap [] [T]) F (λ u H'=>∃x,H'=ap [] [x] /\ (MemH mb (aR (g.step M) M) k x /\ u=.tuple #[.bool false,.agg #[vI 0,vI 0,vI 0,vI 0],.bool false])):=by
 refine aat Tryz.func107 rfl mn (A:=[]) (Ts:=[T]) rfl λ w0=>?_;refine ae 29 (ow 0 8) λ n1=>aah (ju 1 hp hM (au 0))<|ae 18 [] λ _=>aak [] []<|ag [] [0,1,2,3,4,5,7] (ow 3 16++[.own 2,.own 2,.own 2,.own 2])<|aac [] 6 (λ X_=>(az 2 hM (aG 0)))<|aac [] 8 (λ X_=>(az 3 hM (aG 0)))<|ag [] [9] []<|aae 10 (aag [] [] λ n2=>?_);refine ag [] [11] []<|aad<|ae 7 [.own 1] λ _=>aai [0] [0] (Dy (g.step M) (n2+0) mb M (k+12) T _ hM hS.up ) ?_;rintro _ T3 ID;refine ae 3 [] λ _=>aak [13] [0,1,3,4]<|ag [0,1,3,4] [0,4,8,1,5,9,2,6,10,3,7,11,12] (ow 0 5++[.ro 0])<|aae 13 (aag [0,1,3,4] [.own 2,.own 2,.own 2,.own 2] λ _=>?_);refine ag [0,1,3,4] [14] []<|aad<|ae 1 [] λ _=>aap [.own 2,.own 2,.own 2,.own 2] [] [0] (v:=.tuple #[.bool false,.agg #[vI 0,vI 0,vI 0,vI 0],.bool false]) (H':=(ap [] [T3])) ?_;exact⟨T3,rfl,ID.weak (by omega),rfl⟩
theorem Nz(g:Gm)(mb:Nat)(M:MemS)(k:Nat)(T F:HL)(hM:MemH mb M (k+20) T)(hS:SetIn F g.S)(hp:M.get 1=4) :Sp Tryz.prog 107 #[.iface 113 (vP mb 0),.agg #[vI g.S.players,vS g.S.bb (g.S.bo*9) g.S.nb g.S.bc,vI g.S.box.x0,vI g.S.box.y0,vI g.S.box.x1,vI g.S.box.y1,.slice g.S.rA g.S.rn g.S.rc,.slice g.S.dA g.S.dn g.S.dc,vI g.S.fog,vI g.S.g.x,vI g.S.g.y,vI g.S.push,vI g.S.drag,vI g.S.rest,vI g.S.rounds,vI g.S.fuel],.agg #[.slice g.cA g.cn g.cc,vI g.e0,vI g.e1,vI g.e2],vI g.version,vS g.ib (g.io*3) g.ni g.ic] (ap [] [T]) F (λ u H'=>∃x,H'=ap [] [x] /\ (MemH mb (bH (g.step M) M) k x /\ u=.tuple #[.bool false,.agg #[vI 0,vI 0,vI 0,vI 0],.bool false])):=by
 refine aat Tryz.func107 rfl mn (A:=[]) (Ts:=[T]) rfl λ w0=>?_;refine ae 29 (ow 0 8) λ n1=>aah (ju 1 hp hM (au 0))<|ae 18 [] λ _=>aak [] []<|ag [] [0,1,2,3,4,5,7] (ow 3 16++[.own 2,.own 2,.own 2,.own 2])<|aac [] 6 (λ X_=>(az 2 hM (aG 0)))<|aac [] 8 (λ X_=>(az 3 hM (aG 0)))<|ag [] [9] []<|aae 10 (aag [] [] λ n2=>?_);refine ag [] [11] []<|aad<|ae 7 [.own 1] λ _=>aai [0] [0] (uZ (g.step M) (n2+0) mb M (k+6) T _ hM hS.up ) ?_;rintro _ T3 ID;refine ae 3 [] λ _=>aak [13] [0,1,3,4]<|ag [0,1,3,4] [0,4,8,1,5,9,2,6,10,3,7,11,12] (ow 0 5++[.ro 0])<|aae 13 (aag [0,1,3,4] [.own 2,.own 2,.own 2,.own 2] λ _=>?_);refine ag [0,1,3,4] [14] []<|aad<|ae 1 [] λ _=>aap [.own 2,.own 2,.own 2,.own 2] [] [0] (v:=.tuple #[.bool false,.agg #[vI 0,vI 0,vI 0,vI 0],.bool false]) (H':=(ap [] [T3])) ?_;exact⟨T3,rfl,ID.weak (by omega),rfl⟩
theorem NA(g:Gm)(mb:Nat)(M:MemS)(k:Nat)(T F:HL)(hM:MemH mb M (k+20) T)(hS:SetIn F g.S)(hp:M.get 1=5) :Sp Tryz.prog 107 #[.iface 113 (vP mb 0),.agg #[vI g.S.players,vS g.S.bb (g.S.bo*9) g.S.nb g.S.bc,vI g.S.box.x0,vI g.S.box.y0,vI g.S.box.x1,vI g.S.box.y1,.slice g.S.rA g.S.rn g.S.rc,.slice g.S.dA g.S.dn g.S.dc,vI g.S.fog,vI g.S.g.x,vI g.S.g.y,vI g.S.push,vI g.S.drag,vI g.S.rest,vI g.S.rounds,vI g.S.fuel],.agg #[.slice g.cA g.cn g.cc,vI g.e0,vI g.e1,vI g.e2],vI g.version,vS g.ib (g.io*3) g.ni g.ic] (ap [] [T]) F (λ u H'=>∃x,H'=ap [] [x] /\ (MemH mb (dP (g.step M) M) k x /\ u=.tuple #[.bool false,.agg #[vI 0,vI 0,vI 0,vI 0],.bool false])):=by
 refine aat Tryz.func107 rfl mn (A:=[]) (Ts:=[T]) rfl λ w0=>?_;refine ae 29 (ow 0 8) λ n1=>aah (ju 1 hp hM (au 0))<|ae 18 [] λ _=>aak [] []<|ag [] [0,1,2,3,4,5,7] (ow 3 16++[.own 2,.own 2,.own 2,.own 2])<|aac [] 6 (λ X_=>(az 2 hM (aG 0)))<|aac [] 8 (λ X_=>(az 3 hM (aG 0)))<|ag [] [9] []<|aae 10 (aag [] [] λ n2=>?_);refine ag [] [11] []<|aad<|ae 7 [.own 1] λ _=>aai [0] [0] (DI (g.step M) (n2+0) mb M (k+12) T _ hM hS.up ) ?_;rintro _ T3 ID;refine ae 3 [] λ _=>aak [13] [0,1,3,4]<|ag [0,1,3,4] [0,4,8,1,5,9,2,6,10,3,7,11,12] (ow 0 5++[.ro 0])<|aae 13 (aag [0,1,3,4] [.own 2,.own 2,.own 2,.own 2] λ _=>?_);refine ag [0,1,3,4] [14] []<|aad<|ae 1 [] λ _=>aap [.own 2,.own 2,.own 2,.own 2] [] [0] (v:=.tuple #[.bool false,.agg #[vI 0,vI 0,vI 0,vI 0],.bool false]) (H':=(ap [] [T3])) ?_;exact⟨T3,rfl,ID.weak (by omega),rfl⟩
theorem NB(g:Gm)(mb:Nat)(M:MemS)(k:Nat)(T F:HL)(hM:MemH mb M (k+20) T)(hS:SetIn F g.S)(hp:M.get 1=6)(hE:cz F)(hC:CodeIn F g.code g.cA g.cn):Sp Tryz.prog 107 #[.iface 113 (vP mb 0),.agg #[vI g.S.players,vS g.S.bb (g.S.bo*9) g.S.nb g.S.bc,vI g.S.box.x0,vI g.S.box.y0,vI g.S.box.x1,vI g.S.box.y1,.slice g.S.rA g.S.rn g.S.rc,.slice g.S.dA g.S.dn g.S.dc,vI g.S.fog,vI g.S.g.x,vI g.S.g.y,vI g.S.push,vI g.S.drag,vI g.S.rest,vI g.S.rounds,vI g.S.fuel],.agg #[.slice g.cA g.cn g.cc,vI g.e0,vI g.e1,vI g.e2],vI g.version,vS g.ib (g.io*3) g.ni g.ic] (ap [] [T]) F (λ u H'=>∃x,H'=ap [] [x] /\ (MemH mb (eX (g.step M) M).M k x /\ u=.tuple #[.bool false,.agg (aaa (eX (g.step M) M).e).toArray,.bool ((eX (g.step M) M).em)])):=by
 refine aat Tryz.func107 rfl mn (A:=[]) (Ts:=[T]) rfl λ w0=>?_;refine ae 29 (ow 0 8) λ n1=>aah (ju 1 hp hM (au 0))<|ae 18 [] λ _=>aak [] []<|ag [] [0,1,2,3,4,5,7] (ow 3 16++[.own 2,.own 2,.own 2,.own 2])<|aac [] 6 (λ X_=>(az 2 hM (aG 0)))<|aac [] 8 (λ X_=>(az 3 hM (aG 0)))<|ag [] [9] []<|aae 10 (aag [] [] λ n2=>?_);refine ag [] [11] []<|aad<|ae 7 [.own 1] λ _=>aai [0] [0] (Pz (g.step M) (n2+0) mb M (k+11) T _ hM hS.up (av hE) hC.up) ?_;rintro _ T3 ID;refine ae 3 [] λ _=>aak [13] [0,1,3,4]<|ag [0,1,3,4] [0,4,8,1,5,9,2,6,10,3,7,11,12] (ow 0 5++[.ro 0])<|aae 13 (aag [0,1,3,4] [.own 2,.own 2,.own 2,.own 2] λ _=>?_);refine ag [0,1,3,4] [14] []<|aad<|ae 1 [] λ _=>aap [.own 2,.own 2,.own 2,.own 2] [] [0] (v:=.tuple #[.bool false,.agg (aaa (eX (g.step M) M).e).toArray,.bool ((eX (g.step M) M).em)]) (H':=(ap [] [T3])) ?_;exact⟨T3,rfl,ID.weak (by omega),rfl⟩
theorem NC(g:Gm)(mb:Nat)(M:MemS)(k:Nat)(T F:HL)(hM:MemH mb M (k+20) T)(hS:SetIn F g.S)(hp:M.get 1=7) :Sp Tryz.prog 107 #[.iface 113 (vP mb 0),.agg #[vI g.S.players,vS g.S.bb (g.S.bo*9) g.S.nb g.S.bc,vI g.S.box.x0,vI g.S.box.y0,vI g.S.box.x1,vI g.S.box.y1,.slice g.S.rA g.S.rn g.S.rc,.slice g.S.dA g.S.dn g.S.dc,vI g.S.fog,vI g.S.g.x,vI g.S.g.y,vI g.S.push,vI g.S.drag,vI g.S.rest,vI g.S.rounds,vI g.S.fuel],.agg #[.slice g.cA g.cn g.cc,vI g.e0,vI g.e1,vI g.e2],vI g.version,vS g.ib (g.io*3) g.ni g.ic] (ap [] [T]) F (λ u H'=>∃x,H'=ap [] [x] /\ (MemH mb (du (g.step M) M) k x /\ u=.tuple #[.bool (fP (g.step M)),.agg #[vI 0,vI 0,vI 0,vI 0],.bool false])):=by
 refine aat Tryz.func107 rfl mn (A:=[]) (Ts:=[T]) rfl λ w0=>?_;refine ae 29 (ow 0 8) λ n1=>aah (ju 1 hp hM (au 0))<|ae 18 [] λ _=>aak [] []<|ag [] [0,1,2,3,4,5,7] (ow 3 16++[.own 2,.own 2,.own 2,.own 2])<|aac [] 6 (λ X_=>(az 2 hM (aG 0)))<|aac [] 8 (λ X_=>(az 3 hM (aG 0)))<|ag [] [9] []<|aae 10 (aag [] [] λ n2=>?_);refine ag [] [11] []<|aad<|ae 7 [.own 1] λ _=>aai [0] [0] (Gy (g.step M) (n2+0) mb M (k+6) T _ hM hS.up ) ?_;rintro _ T3 ID;refine ae 3 [] λ _=>aak [13] [0,1,3,4]<|ag [0,1,3,4] [0,4,8,1,5,9,2,6,10,3,7,11,12] (ow 0 5++[.ro 0])<|aae 13 (aag [0,1,3,4] [.own 2,.own 2,.own 2,.own 2] λ _=>?_);refine ag [0,1,3,4] [14] []<|aad<|ae 1 [] λ _=>aap [.own 2,.own 2,.own 2,.own 2] [] [0] (v:=.tuple #[.bool (fP (g.step M)),.agg #[vI 0,vI 0,vI 0,vI 0],.bool false]) (H':=(ap [] [T3])) ?_;exact⟨T3,rfl,ID.weak (by omega),rfl⟩
def fG:Enc Eff:=⟨4,λ p k=>match k with|0=>vI p.t|1=>vI p.i|2=>vI p.k|_=>vI p.v,bB⟩
noncomputable def Mq:TypeInfo:=match Tryz.prog.info? 111 with | some i=>i | none=>⟨.bool,"",0,0,false,0,0,none,false,#[]⟩
noncomputable def Mr:Value:=match Mq.zero with|some z=>z|none=>.bool false
theorem mW:EncOk fG Tryz.prog 111 Mq Mr where
 info:=by kernel_rfl
 zero:=by kernel_rfl
 size:=by kernel_rfl
 zsize:=by kernel_rfl
 zcell:=λ k hk=>by
  have h:∀k<4,Mr.cells[k]?=some (fG.cell fG.dflt k):=by intro k hk;(iterate 4 (rcases k with _|k;· kernel_rfl));omega
  exact h k hk
 one:=λ x k=>by unfold fG;dsimp only;split <;> rfl
 bytes:=aaF (by kernel_rfl)
def eT(g:Gm)(M:MemS):VR:=if M.get 1=0 then ⟨aQ (g.step M) M,0,bB,false⟩ else if M.get 1=1 then (eV (g.step M) M) else if M.get 1=2 then (cT (g.step M) M) else if M.get 1=3 then ⟨aR (g.step M) M,0,bB,false⟩ else if M.get 1=4 then ⟨bH (g.step M) M,0,bB,false⟩ else if M.get 1=5 then ⟨dP (g.step M) M,0,bB,false⟩ else if M.get 1=6 then (eX (g.step M) M) else ⟨du (g.step M) M,0,bB,false⟩
def jl(g:Gm)(M:MemS):Bool:=if M.get 1=7 then fP (g.step M) else false
abbrev jm(g:Gm)(M:MemS):MemS:=(eT g M).M
abbrev Gz(M:MemS):Prop:=0 <= M.get 1 /\ M.get 1 <= 7
structure GmIn(F:HL)(g:Gm):Prop where
 set:SetIn F g.S
 ins:(g.ib,.rows 3 g.iR (kM g.ins) 40 (0,0))∈F
 room:g.io+g.ni <= g.iR /\ g.ni <= 1000000
 eff:cz F
 code:CodeIn F g.code g.cA g.cn
theorem DJ(g:Gm)(mb:Nat)(M:MemS)(k:Nat)(T F:HL)(hM:MemH mb M (k+20) T)(hg:GmIn F g)(h0:Gz M)(ver:Int)(Zb:g.version=ver):Sp Tryz.prog 107 #[.iface 113 (vP mb 0),.agg #[vI g.S.players,vS g.S.bb (g.S.bo*9) g.S.nb g.S.bc,vI g.S.box.x0,vI g.S.box.y0,vI g.S.box.x1,vI g.S.box.y1,.slice g.S.rA g.S.rn g.S.rc,.slice g.S.dA g.S.dn g.S.dc,vI g.S.fog,vI g.S.g.x,vI g.S.g.y,vI g.S.push,vI g.S.drag,vI g.S.rest,vI g.S.rounds,vI g.S.fuel],.agg #[.slice g.cA g.cn g.cc,vI g.e0,vI g.e1,vI g.e2],vI ver,vS g.ib (g.io*3) g.ni g.ic] (ap [] [T]) F (λ u H'=>∃x,H'=ap [] [x] /\ (MemH mb (jm g M) k x /\ u=.tuple #[.bool (jl g M),.agg (aaa (eT g M).e).toArray,.bool ((eT g M).em)])):=by
 subst Zb
 by_cases h0:M.get 1=0
 ·rw[jm,show eT g M=⟨aQ (g.step M) M,0,bB,false⟩ by simp only[eT,if_pos h0],show jl g M=false by simp[jl,h0]];exact Ns g mb M k T F hM hg.set h0 hg.ins hg.room
 by_cases h1:M.get 1=1
 ·rw[jm,show eT g M=(eV (g.step M) M) by simp only[eT,if_neg h0,if_pos h1],show jl g M=false by simp[jl,h1]];exact Nt g mb M k T F hM hg.set h1 hg.eff hg.code
 by_cases h2:M.get 1=2
 ·rw[jm,show eT g M=(cT (g.step M) M) by simp only[eT,if_neg h0,if_neg h1,if_pos h2],show jl g M=false by simp[jl,h2]];exact Nw g mb M k T F hM hg.set h2 hg.eff hg.code
 by_cases h3:M.get 1=3
 ·rw[jm,show eT g M=⟨aR (g.step M) M,0,bB,false⟩ by simp only[eT,if_neg h0,if_neg h1,if_neg h2,if_pos h3],show jl g M=false by simp[jl,h3]];exact Ny g mb M k T F hM hg.set h3
 by_cases h4:M.get 1=4
 ·rw[jm,show eT g M=⟨bH (g.step M) M,0,bB,false⟩ by simp only[eT,if_neg h0,if_neg h1,if_neg h2,if_neg h3,if_pos h4],show jl g M=false by simp[jl,h4]];exact Nz g mb M k T F hM hg.set h4
 by_cases h5:M.get 1=5
 ·rw[jm,show eT g M=⟨dP (g.step M) M,0,bB,false⟩ by simp only[eT,if_neg h0,if_neg h1,if_neg h2,if_neg h3,if_neg h4,if_pos h5],show jl g M=false by simp[jl,h5]];exact NA g mb M k T F hM hg.set h5
 by_cases h6:M.get 1=6
 ·rw[jm,show eT g M=(eX (g.step M) M) by simp only[eT,if_neg h0,if_neg h1,if_neg h2,if_neg h3,if_neg h4,if_neg h5,if_pos h6],show jl g M=false by simp[jl,h6]];exact NB g mb M k T F hM hg.set h6 hg.eff hg.code
 have h7:M.get 1=7:=by omega
 rw[jm,show eT g M=⟨du (g.step M) M,0,bB,false⟩ by simp only[eT,if_neg h0,if_neg h1,if_neg h2,if_neg h3,if_neg h4,if_neg h5,if_neg h6],show jl g M=fP (g.step M) by simp[jl,h7]];exact NC g mb M k T F hM hg.set h7
def fX(g:Gm):Nat -> MemS -> MemS
 | 0,M=>M
 | n+1,M=>fX g n (jm g M)
def effsV(g:Gm):Nat -> MemS -> List Eff
 | 0,_=>[]
 | n+1,M=>(if (eT g M).em=true then [(eT g M).e] else [])++effsV g n (jm g M)
def dU(g:Gm):Nat -> MemS -> Prop
 | 0,_=>False
 | n+1,M=>Gz M /\ ((n=0 /\ jl g M=true) \/ (jl g M=false /\ dU g n (jm g M)))
theorem tw{g:Gm}{n:Nat}{M:MemS}(h:(eT g M).em=true):effsV g (n+1) M=(eT g M).e::effsV g n (jm g M):=by rw[effsV,if_pos h];rfl
theorem nS{g:Gm}{n:Nat}{M:MemS}(h:¬ (eT g M).em=true):effsV g (n+1) M=effsV g n (jm g M):=by rw[effsV,if_neg h];rfl
theorem tz(g:Gm):∀n M,(effsV g n M).length <= n
 | 0,_=>aaI _
 | n+1,M=>by
  rw[effsV,aaK];have:=tz g n (jm g M);split
  ·simp;omega
  ·simp;omega
def Shp.nm(s:Shp):Shp:=⟨s.r,s.poly,none,0⟩
def Bod.nm(b:Bod):Bod:=⟨b.sh.nm,b.mot,b.a,b.b⟩
def Setup.nm(S:Setup):Setup:={ S with bb:=0,bo:=0,bc:=0,bR:=0,bods:=(S.bods.drop S.bo).map Bod.nm,rA:=none,rc:=0,dA:=none,dc:=0 }
def Stp.nm(t:Stp):Stp:={ t with S:=t.S.nm,cA:=none,cc:=0,ib:=0,io:=0,ic:=0,iR:=0,ins:=[] }
theorem DL{α:Type}(l:List α)(o k:Nat)(d:α):(l.drop o).getD (0+k) d=l.getD (o+k) d:=by
 rw[Nat.zero_add,aaE,aaE,aa1]
theorem GA{α β:Type}(f:α -> β)(l:List α)(k:Nat)(d:α):(l.map f).getD k (f d)=f (l.getD k d):=by
 rw[aaE,aaE,List.getElem?_map];cases l[k]? <;> rfl
theorem qn(S:Setup)(k:Nat):S.nm.body k=(S.body k).nm:=by
 show ((S.bods.drop S.bo).map Bod.nm).getD (0+k) dB=Bod.nm (S.bods.getD (S.bo+k) dB);rw[<- DL S.bods S.bo k dB];exact GA Bod.nm _ _ dB
theorem kl(S:Setup):S.nm.players=S.players:=rfl
theorem iz(S:Setup):S.nm.nb=S.nb:=rfl
theorem GB(S:Setup):S.nm.box=S.box:=rfl
theorem ND(S:Setup):S.nm.g=S.g:=rfl
theorem DM(S:Setup):S.nm.push=S.push:=rfl
theorem DN(S:Setup):S.nm.drag=S.drag:=rfl
theorem tC(S:Setup):S.nm.rest=S.rest:=rfl
theorem xh(S:Setup):S.nm.rounds=S.rounds:=rfl
theorem tD(S:Setup):S.nm.fuel=S.fuel:=rfl
theorem BX(t:Stp):t.nm.cn=t.cn:=rfl
theorem BZ(t:Stp):t.nm.e0=t.e0:=rfl
theorem KB(t:Stp):t.nm.e1=t.e1:=rfl
theorem B0(t:Stp):t.nm.e2=t.e2:=rfl
theorem u9(t:Stp):t.nm.version=t.version:=rfl
theorem dp(t:Stp):t.nm.i=t.i:=rfl
theorem g9(t:Stp):t.nm.j=t.j:=rfl
theorem z6(t:Stp):t.nm.ended=t.ended:=rfl
theorem qo(t:Stp):t.nm.f0=t.f0:=rfl
theorem qp(t:Stp):t.nm.f1=t.f1:=rfl
theorem qr(t:Stp):t.nm.f2=t.f2:=rfl
theorem qs(t:Stp):t.nm.f3=t.f3:=rfl
theorem iA(t:Stp):t.nm.emitted=t.emitted:=rfl
theorem oL(t:Stp):t.nm.code=t.code:=rfl
theorem bG(t:Stp):t.nm.S=t.S.nm:=rfl
theorem B1(b:Bod):b.nm.sh=b.sh.nm:=rfl
theorem xj(b:Bod):b.nm.mot=b.mot:=rfl
theorem NE(s:Shp):s.nm.r=s.r:=rfl
theorem jz(S:Setup)(k:Int) :ah S.nm k=ah S k:=by
 unfold ah;simp only[kl,bG] <;> rfl
theorem fm(S:Setup)(k:Int) :af S.nm k=af S k:=by
 unfold af;simp only[kl,iz,bG] <;> rfl
theorem vc(S:Setup)(k:Int) :(movP S.nm k)=(movP S k):=by
 unfold movP;simp only[iz,bG,xj,qn] <;> rfl
theorem nT(S:Setup)(M:MemS)(k:Int) :ao S.nm M k=ao S M k:=by
 unfold ao;simp only[bG,xj,qn,fm] <;> rfl
theorem xk(a:Shp)(pa:V2)(b:Shp)(pb:V2) :cG a.nm pa b.nm pb=cG a pa b pb:=by
 kernel_rfl
theorem GC(a:Shp)(pa va:V2)(b:Shp)(pb vb:V2) :mB a.nm pa va b.nm pb vb=mB a pa va b pb vb:=by
 kernel_rfl
theorem z7(t:Stp)(k:Int)(m:Mot)(M:MemS) :dm t.nm k m M=dm t k m M:=by
 unfold dm;simp only[bG,fm] <;> rfl
theorem DP(t:Stp)(c sp pos lo hi:Int)(M:MemS) :dQ t.nm c sp pos lo hi M=dQ t c sp pos lo hi M:=by
 unfold dQ;simp only[tC,bG] <;> rfl
theorem tE(t:Stp)(M:MemS) :bg t.nm M=bg t M:=by
 unfold bg;simp only[u9,dp,bG] <;> rfl
theorem tF(t:Stp)(M:MemS) :bS t.nm M=bS t M:=by
 unfold bS;simp only[kl,dp,bG] <;> rfl
theorem xm(t:Stp) :fP t.nm=fP t:=by
 unfold fP;simp only[iz,dp,z6,bG] <;> rfl
theorem GD(t:Stp)(M:MemS) :fQ t.nm M=fQ t M:=by
 unfold fQ;simp only[dp,bG,fm] <;> rfl
theorem GE(t:Stp)(M:MemS) :ga t.nm M=ga t M:=by
 unfold ga;simp only[iz,dp,bG] <;> rfl
theorem xn(t:Stp)(M:MemS) :du t.nm M=du t M:=by
 unfold du;simp only[bG,GD,GE] <;> rfl
theorem DQ(t:Stp)(M:MemS) :b9 t.nm M=b9 t M:=by
 unfold b9;simp only[ND,DM,DN,dp,bG,jz,nT] <;> rfl
theorem DS(t:Stp)(M:MemS) :bF t.nm M=bF t M:=by
 unfold bF;simp only[dp,bG,fm] <;> rfl
theorem DT(t:Stp)(M:MemS) :bJ t.nm M=bJ t M:=by
 unfold bJ;simp only[dp,bG,fm,vc,DQ] <;> rfl
theorem DU(t:Stp)(M:MemS) :bU t.nm M=bU t M:=by
 unfold bU;simp only[iz,dp,bG] <;> rfl
theorem tG(t:Stp)(M:MemS) :aR t.nm M=aR t M:=by
 unfold aR;simp only[bG,DS,DT,DU] <;> rfl
theorem z8(t:Stp)(M:MemS) :gC t.nm M=gC t M:=by
 unfold gC;simp only[dp,bG,nT] <;> rfl
theorem Ac(t:Stp)(M:MemS) :cW t.nm M=cW t M:=by
 unfold cW;simp only[GB,dp,bG,fm,DP,z8] <;> rfl
theorem GG(S:Setup)(op n a b:Int)(M:MemS) :aC S.nm op n a b M=aC S op n a b M:=by
 unfold aC;simp only[bG,fm] <;> rfl
theorem GH(S:Setup)(op n sp pc fuel:Int)(M:MemS) :bP S.nm op n sp pc fuel M=bP S op n sp pc fuel M:=by
 unfold bP;simp only[tD,bG,GG] <;> rfl
theorem GI(S:Setup)(code:List Ins)(n:Nat)(M:MemS) :ak S.nm code n M=ak S code n M:=by
 unfold ak;simp only[oL,bG,GH] <;> rfl
theorem vd(e:Int)(t:Stp)(self other:Int)(M:MemS) :eK e t.nm self other M=eK e t self other M:=by
 unfold eK;simp only[tD,BX,g9,iA,oL,bG,GI,qo,qp,qr,qs] <;> rfl
theorem ve(e:Int)(t:Stp)(self other:Int)(M:MemS) :dE e t.nm self other M=dE e t self other M:=by
 unfold dE;simp only[BX,g9,oL,bG] <;> rfl
theorem xo(r:VR)(over:Bool)(t:Stp)(Se:Bool)(M:MemS) :dw r over t.nm Se M=dw r over t Se M:=by
 unfold dw;simp only[dp,g9,iA,bG,NE,qo,qp,qr,qs] <;> rfl
theorem B2(t:Stp)(M:MemS) :eV t.nm M=eV t M:=by
 unfold eV;simp only[dp,iA,bG,jz,qo,qp,qr,qs,BZ,B0,vd,ve,xo] <;> rfl
theorem xp(t:Stp)(M:MemS) :cT t.nm M=cT t M:=by
 unfold cT;simp only[bG,KB,dp,g9,vd,ve] <;> rfl
theorem B3(t:Stp)(M:MemS) :eX t.nm M=eX t M:=by
 unfold eX;simp only[dp,iA,bG,fm,qo,qp,qr,qs,BZ,B0,vd,ve,xo] <;> rfl
theorem B4(t:Stp)(M:MemS) :sG t.nm M=sG t M:=by
 unfold sG;simp only[dp,g9,bG,B1,qn,nT,xk] <;> rfl
theorem KC(t:Stp)(M:MemS) :xg t.nm M=xg t M:=by
 unfold xg;simp only[tC,dp,g9,bG,nT,B4] <;> rfl
theorem xq(t:Stp)(M:MemS) :fE t.nm M=fE t M:=by
 unfold fE;simp only[dp,g9,bG,fm,z7,KC] <;> rfl
theorem DV(t:Stp)(M:MemS) :dK t.nm M=dK t M:=by
 unfold dK;simp only[iz,dp,g9,bG,B4,xq] <;> rfl
theorem KD(t:Stp)(M:MemS) :sH t.nm M=sH t M:=by
 unfold sH;simp only[dp,g9,bG,B1,qn,nT,GC] <;> rfl
theorem GJ(t:Stp)(M:MemS) :eL t.nm M=eL t M:=by
 unfold eL;simp only[dp,g9,bG,vc,KD] <;> rfl
theorem GK(t:Stp)(M:MemS) :fF t.nm M=fF t M:=by
 unfold fF;simp only[iz,dp,bG] <;> rfl
theorem xr(t:Stp)(M:MemS) :dP t.nm M=dP t M:=by
 unfold dP;simp only[iz,dp,g9,bG,vc,Ac,GJ,GK] <;> rfl
theorem pK(t:Stp)(M:MemS) :bH t.nm M=bH t M:=by
 unfold bH;simp only[iz,xh,dp,g9,bG,DV] <;> rfl
def Gm.nm(g:Gm):Gm:={ g with S:=g.S.nm,cA:=none,cc:=0,ib:=0,io:=0,ic:=0,iR:=0,ins:=[] }
theorem lR(g:Gm)(M:MemS):g.nm.step M=(g.step M).nm:=rfl
structure GEq(g g':Gm):Prop where
 nm:g.nm=g'.nm
 inp:∀k,k<g.ni -> g.ins.getD (g.io+k) dI=g'.ins.getD (g'.io+k) dI
theorem DW{g g':Gm}(h:GEq g g')(M:MemS):aQ (g.step M) M=aQ (g'.step M) M:=by
 have hs:(g.step M).nm=(g'.step M).nm:=by rw[<- lR,<- lR,h.nm]
 unfold aQ;rw[<- tE (g.step M),hs,tE];generalize bg (g'.step M) M=N;have hb:bx (g.step M) N=bx (g'.step M) N:=by
  have hS:(g.step M).S.nm=(g'.step M).S.nm:=show (g.step M).nm.S=(g'.step M).nm.S by rw[hs]
  have hi:(g.step M).i=(g'.step M).i:=show (g.step M).nm.i=(g'.step M).nm.i by rw[hs]
  have hn:(g.step M).ni=(g'.step M).ni:=show (g.step M).nm.ni=(g'.step M).nm.ni by rw[hs]
  unfold bx;rw[<- jz (g.step M).S,hS,jz,hi,hn]
  by_cases h1:ah (g'.step M).S (g'.step M).i >= 0
  ·rw[if_pos h1,if_pos h1]
   by_cases h2:(g'.step M).i<(g'.step M).ni
   ·rw[if_pos h2,if_pos h2];have h3:0 <= (g'.step M).i:=by
     rcases Int.lt_or_le (g'.step M).i 0 with h4|h4
     ·unfold ah at h1;rw[if_pos h4] at h1;omega
     ·exact h4
    have e:(g.step M).inp (g'.step M).i.toNat=(g'.step M).inp (g'.step M).i.toNat:=by
     have h5:(g'.step M).i.toNat<g.ni:=by
      have h6:((g'.step M).ni:Int)=(g.ni:Int):=congrArg (Nat.cast) hn.symm;omega
     exact h.inp _ h5
    rw[e]
   ·rw[if_neg h2,if_neg h2]
  ·rw[if_neg h1,if_neg h1]
 rw[hb,<- tF (g.step M),hs,tF]
theorem vf{g g':Gm}(h:GEq g g')(M:MemS):eT g M=eT g' M:=by
 have hs:(g.step M).nm=(g'.step M).nm:=by rw[<- lR,<- lR,h.nm]
 unfold eT;rw[DW h,<- B2 (g.step M),<- xp (g.step M),<- tG (g.step M),<- pK (g.step M),<- xr (g.step M),<- B3 (g.step M),<- xn (g.step M),hs,B2,xp,tG,pK,xr,B3,xn]
theorem GL{g g':Gm}(h:GEq g g')(M:MemS):jl g M=jl g' M:=by
 have hs:(g.step M).nm=(g'.step M).nm:=by rw[<- lR,<- lR,h.nm]
 unfold jl;rw[<- xm (g.step M),hs,xm]
theorem B5{g g':Gm}(h:GEq g g'):∀ (n:Nat) (M:MemS),fX g n M=fX g' n M
 | 0,_=>rfl
 | n+1,M=>by rw[fX,fX,jm,jm,vf h];exact B5 h n _
theorem xt{g g':Gm}(h:GEq g g'):∀ (n:Nat) (M:MemS),effsV g n M=effsV g' n M
 | 0,_=>rfl
 | n+1,M=>by rw[effsV,effsV,jm,jm,vf h,xt h n]
def MemS.sh(M:MemS)(l:List (Int × Int))(b:Int):MemS:=⟨M.cs,l++M.lg,b⟩
def VR.sh(r:VR)(l:List (Int × Int))(b:Int):VR:={ r with M:=r.M.sh l b }
theorem aU(M:MemS)(l:List (Int × Int))(b i:Int):(M.sh l b).get i=M.get i:=rfl
theorem aV(M:MemS)(l:List (Int × Int))(b i v:Int):(M.sh l b).set i v=(M.set i v).sh l b:=by
 unfold MemS.set MemS.sh;dsimp only;split
 ·simp
 ·rfl
theorem aY(M N:MemS)(l:List (Int × Int))(b:Int)(c:Prop)[Decidable c]:(if c then M.sh l b else N.sh l b)=(if c then M else N).sh l b:=by split <;> rfl
theorem aI(M N:VR)(l:List (Int × Int))(b:Int)(c:Prop)[Decidable c]:(if c then M.sh l b else N.sh l b)=(if c then M else N).sh l b:=by split <;> rfl
theorem aW(M:MemS)(l:List (Int × Int))(b v:Int)(e:Eff)(em:Bool):(⟨M.sh l b,v,e,em⟩:VR)=VR.sh ⟨M,v,e,em⟩ l b:=rfl
theorem aB(code:List Ins)(M:MemS)(l:List (Int × Int))(b:Int):br code (M.sh l b)=br code M:=rfl
theorem bZ(r:VR)(l:List (Int × Int))(b:Int):(r.sh l b).z=r.z.sh l b:=rfl
theorem bI(r:VR)(l:List (Int × Int))(b:Int):(r.sh l b).M=r.M.sh l b:=rfl
theorem b6(r:VR)(l:List (Int × Int))(b:Int):(r.sh l b).v=r.v:=rfl
theorem bQ(r:VR)(l:List (Int × Int))(b:Int):(r.sh l b).e=r.e:=rfl
theorem aX(r:VR)(l:List (Int × Int))(b:Int):(r.sh l b).em=r.em:=rfl
theorem nU(S:Setup)(M:MemS)(k:Int)(l_:List (Int × Int))(b_:Int):ao S (M.sh l_ b_) k=ao S M k:=by
 unfold ao;simp only[aU,aV,aY,aI,aW,bI,b6,bQ,aX,aB,bZ] <;> rfl
theorem gm(t:Stp)(ph j:Int)(M:MemS)(l_:List (Int × Int))(b_:Int):aL t ph j (M.sh l_ b_)=(aL t ph j M).sh l_ b_:=by
 unfold aL;simp only[aU,aV,aY,aI,aW,bI,b6,bQ,aX,aB,bZ] <;> rfl
theorem Ad(t:Stp)(k:Int)(m:Mot)(M:MemS)(l_:List (Int × Int))(b_:Int):dm t k m (M.sh l_ b_)=(dm t k m M).sh l_ b_:=by
 unfold dm;simp only[aU,aV,aY,aI,aW,bI,b6,bQ,aX,aB,bZ] <;> rfl
theorem DX(t:Stp)(c sp pos lo hi:Int)(M:MemS)(l_:List (Int × Int))(b_:Int):dQ t c sp pos lo hi (M.sh l_ b_)=(dQ t c sp pos lo hi M).sh l_ b_:=by
 unfold dQ;simp only[aU,aV,aY,aI,aW,bI,b6,bQ,aX,aB,bZ] <;> rfl
theorem DY(t:Stp)(M:MemS)(l_:List (Int × Int))(b_:Int):bg t (M.sh l_ b_)=(bg t M).sh l_ b_:=by
 unfold bg;simp only[aU,aV,aY,aI,aW,bI,b6,bQ,aX,aB,bZ] <;> rfl
theorem DZ(t:Stp)(M:MemS)(l_:List (Int × Int))(b_:Int):bx t (M.sh l_ b_)=(bx t M).sh l_ b_:=by
 unfold bx;simp only[aU,aV,aY,aI,aW,bI,b6,bQ,aX,aB,bZ] <;> rfl
theorem D1(t:Stp)(M:MemS)(l_:List (Int × Int))(b_:Int):bS t (M.sh l_ b_)=(bS t M).sh l_ b_:=by
 unfold bS;simp only[aU,aV,aY,aI,aW,bI,b6,bQ,aX,aB,bZ,gm] <;> rfl
theorem D2(t:Stp)(M:MemS)(l_:List (Int × Int))(b_:Int):aQ t (M.sh l_ b_)=(aQ t M).sh l_ b_:=by
 unfold aQ;simp only[aU,aV,aY,aI,aW,bI,b6,bQ,aX,aB,bZ,DY,DZ,D1] <;> rfl
theorem GM(t:Stp)(M:MemS)(l_:List (Int × Int))(b_:Int):fQ t (M.sh l_ b_)=(fQ t M).sh l_ b_:=by
 unfold fQ;simp only[aU,aV,aY,aI,aW,bI,b6,bQ,aX,aB,bZ] <;> rfl
theorem tH(M:MemS)(l_:List (Int × Int))(b_:Int):∀n,cE (M.sh l_ b_) n=(cE M n).sh l_ b_
 | 0=>rfl
 | n+1=>by rw[cE,cE,tH M l_ b_ n,aV]
theorem GN(t:Stp)(M:MemS)(l_:List (Int × Int))(b_:Int):ga t (M.sh l_ b_)=(ga t M).sh l_ b_:=by
 unfold ga;simp only[aU,aV,aY,aI,aW,bI,b6,bQ,aX,aB,bZ,tH] <;> rfl
theorem GO(t:Stp)(M:MemS)(l_:List (Int × Int))(b_:Int):du t (M.sh l_ b_)=(du t M).sh l_ b_:=by
 unfold du;simp only[aU,aV,aY,aI,aW,bI,b6,bQ,aX,aB,bZ,GM,GN] <;> rfl
theorem D3(t:Stp)(M:MemS)(l_:List (Int × Int))(b_:Int):b9 t (M.sh l_ b_)=b9 t M:=by
 unfold b9;simp only[aU,aV,aY,aI,aW,bI,b6,bQ,aX,aB,bZ,nU] <;> rfl
theorem D4(t:Stp)(M:MemS)(l_:List (Int × Int))(b_:Int):bF t (M.sh l_ b_)=(bF t M).sh l_ b_:=by
 unfold bF;simp only[aU,aV,aY,aI,aW,bI,b6,bQ,aX,aB,bZ] <;> rfl
theorem D5(t:Stp)(M:MemS)(l_:List (Int × Int))(b_:Int):bJ t (M.sh l_ b_)=(bJ t M).sh l_ b_:=by
 unfold bJ;simp only[aU,aV,aY,aI,aW,bI,b6,bQ,aX,aB,bZ,D3] <;> rfl
theorem D6(t:Stp)(M:MemS)(l_:List (Int × Int))(b_:Int):bU t (M.sh l_ b_)=(bU t M).sh l_ b_:=by
 unfold bU;simp only[aU,aV,aY,aI,aW,bI,b6,bQ,aX,aB,bZ,gm] <;> rfl
theorem D7(t:Stp)(M:MemS)(l_:List (Int × Int))(b_:Int):aR t (M.sh l_ b_)=(aR t M).sh l_ b_:=by
 unfold aR;simp only[aU,aV,aY,aI,aW,bI,b6,bQ,aX,aB,bZ,D4,D5,D6] <;> rfl
theorem Af(M:MemS)(l_:List (Int × Int))(b_:Int):lP (M.sh l_ b_)=lP M:=by
 unfold lP;simp only[aU,aV,aY,aI,aW,bI,b6,bQ,aX,aB,bZ] <;> rfl
theorem Ag(t:Stp)(M:MemS)(l_:List (Int × Int))(b_:Int):gC t (M.sh l_ b_)=gC t M:=by
 unfold gC;simp only[aU,aV,aY,aI,aW,bI,b6,bQ,aX,aB,bZ,nU,Af] <;> rfl
theorem Ah(t:Stp)(M:MemS)(l_:List (Int × Int))(b_:Int):cW t (M.sh l_ b_)=(cW t M).sh l_ b_:=by
 unfold cW;simp only[aU,aV,aY,aI,aW,bI,b6,bQ,aX,aB,bZ,DX,Ag] <;> rfl
theorem GP(k v:Int)(M:MemS)(l_:List (Int × Int))(b_:Int):cM k v (M.sh l_ b_)=(cM k v M).sh l_ b_:=by
 unfold cM;simp only[aU,aV,aY,aI,aW,bI,b6,bQ,aX,aB,bZ] <;> rfl
theorem GQ(S:Setup)(op n a b:Int)(M:MemS)(l_:List (Int × Int))(b_:Int):aC S op n a b (M.sh l_ b_)=(aC S op n a b M).sh l_ b_:=by
 unfold aC;simp only[aU,aV,aY,aI,aW,bI,b6,bQ,aX,aB,bZ,GP] <;> rfl
theorem KE(op sp:Int)(M:MemS)(l_:List (Int × Int))(b_:Int):eh op sp (M.sh l_ b_)=eh op sp M:=by
 unfold eh;simp only[aU,aV,aY,aI,aW,bI,b6,bQ,aX,aB,bZ] <;> rfl
theorem KF(op sp:Int)(M:MemS)(l_:List (Int × Int))(b_:Int):eo op sp (M.sh l_ b_)=eo op sp M:=by
 unfold eo;simp only[aU,aV,aY,aI,aW,bI,b6,bQ,aX,aB,bZ] <;> rfl
theorem KG(op sp pc fuel:Int)(M:MemS)(l_:List (Int × Int))(b_:Int):dJ op sp pc fuel (M.sh l_ b_)=(dJ op sp pc fuel M).sh l_ b_:=by
 unfold dJ;simp only[aU,aV,aY,aI,aW,bI,b6,bQ,aX,aB,bZ] <;> rfl
theorem GR(S:Setup)(op n sp pc fuel:Int)(M:MemS)(l_:List (Int × Int))(b_:Int):bP S op n sp pc fuel (M.sh l_ b_)=(bP S op n sp pc fuel M).sh l_ b_:=by
 unfold bP;simp only[aU,aV,aY,aI,aW,bI,b6,bQ,aX,aB,bZ,GQ,KE,KF,KG] <;> rfl
theorem xu(code:List Ins)(n:Nat)(M:MemS)(l_:List (Int × Int))(b_:Int):(dZ code n (M.sh l_ b_))=(dZ code n M):=by
 unfold dZ;simp only[aU,aV,aY,aI,aW,bI,b6,bQ,aX,aB,bZ] <;> rfl
theorem GS(op sp:Int)(r:VR)(l_:List (Int × Int))(b_:Int):cf op sp (r.sh l_ b_)=(cf op sp r).sh l_ b_:=by
 unfold cf;simp only[aU,aV,aY,aI,aW,bI,b6,bQ,aX,aB,bZ] <;> rfl
theorem GT(S:Setup)(code:List Ins)(n:Nat)(M:MemS)(l_:List (Int × Int))(b_:Int):ak S code n (M.sh l_ b_)=(ak S code n M).sh l_ b_:=by
 unfold ak;simp only[aU,aV,aY,aI,aW,bI,b6,bQ,aX,aB,bZ,GR,xu,GS] <;> rfl
theorem KH(code:List Ins)(n:Nat)(M:MemS)(l_:List (Int × Int))(b_:Int):bz code n (M.sh l_ b_)=bz code n M:=by
 unfold bz;simp only[aU,aV,aY,aI,aW,bI,b6,bQ,aX,aB,bZ,xu] <;> rfl
theorem D8(e fuel self other:Int)(M:MemS)(l_:List (Int × Int))(b_:Int):aM e fuel self other (M.sh l_ b_)=(aM e fuel self other M).sh l_ b_:=by
 unfold aM;simp only[aU,aV,aY,aI,aW,bI,b6,bQ,aX,aB,bZ] <;> rfl
theorem vg(e:Int)(t:Stp)(self other:Int)(M:MemS)(l_:List (Int × Int))(b_:Int):eK e t self other (M.sh l_ b_)=(eK e t self other M).sh l_ b_:=by
 unfold eK;simp only[aU,aV,aY,aI,aW,bI,b6,bQ,aX,aB,bZ,GT,D8] <;> rfl
theorem vh(e:Int)(t:Stp)(self other:Int)(M:MemS)(l_:List (Int × Int))(b_:Int):dE e t self other (M.sh l_ b_)=dE e t self other M:=by
 unfold dE;simp only[aU,aV,aY,aI,aW,bI,b6,bQ,aX,aB,bZ,KH] <;> rfl
theorem xv(r:VR)(over:Bool)(t:Stp)(Se:Bool)(M:MemS)(l_:List (Int × Int))(b_:Int):dw (r.sh l_ b_) over t Se (M.sh l_ b_)=(dw r over t Se M).sh l_ b_:=by
 unfold dw;simp only[aU,aV,aY,aI,aW,bI,b6,bQ,aX,aB,bZ] <;> rfl
theorem GU(t:Stp)(o:Int)(c:Bool)(M:MemS)(l_:List (Int × Int))(b_:Int):cN t o c (M.sh l_ b_)=(cN t o c M).sh l_ b_:=by
 unfold cN cg jj;rw[vg,vh,xv]
theorem GV(t:Stp)(o:Int)(c:Bool)(M:MemS)(l_:List (Int × Int))(b_:Int):cO t o c (M.sh l_ b_)=(cO t o c M).sh l_ b_:=by
 unfold cO cj jk;rw[vg,vh,xv]
theorem KJ(t:Stp)(M:MemS)(l_:List (Int × Int))(b_:Int):eV t (M.sh l_ b_)=(eV t M).sh l_ b_:=by
 unfold eV;simp only[aU,aV,aY,aI,aW,bI,b6,bQ,aX,aB,bZ,gm,GU] <;> rfl
theorem GW(t:Stp)(M:MemS)(l_:List (Int × Int))(b_:Int):cT t (M.sh l_ b_)=(cT t M).sh l_ b_:=by
 unfold cT;simp only[aU,aV,aY,aI,aW,bI,b6,bQ,aX,aB,bZ,gm,vg,vh] <;> rfl
theorem B6(t:Stp)(M:MemS)(l_:List (Int × Int))(b_:Int):sG t (M.sh l_ b_)=sG t M:=by
 unfold sG;simp only[aU,aV,aY,aI,aW,bI,b6,bQ,aX,aB,bZ,nU] <;> rfl
theorem KL(t:Stp)(M:MemS)(l_:List (Int × Int))(b_:Int):xg t (M.sh l_ b_)=xg t M:=by
 unfold xg;simp only[aU,aV,aY,aI,aW,bI,b6,bQ,aX,aB,bZ,nU,B6] <;> rfl
theorem xw(t:Stp)(M:MemS)(l_:List (Int × Int))(b_:Int):fE t (M.sh l_ b_)=(fE t M).sh l_ b_:=by
 unfold fE;simp only[aU,aV,aY,aI,aW,bI,b6,bQ,aX,aB,bZ,Ad,KL] <;> rfl
theorem D9(t:Stp)(M:MemS)(l_:List (Int × Int))(b_:Int):dK t (M.sh l_ b_)=(dK t M).sh l_ b_:=by
 unfold dK;simp only[aU,aV,aY,aI,aW,bI,b6,bQ,aX,aB,bZ,B6,xw] <;> rfl
theorem KM(t:Stp)(M:MemS)(l_:List (Int × Int))(b_:Int):sH t (M.sh l_ b_)=sH t M:=by
 unfold sH;simp only[aU,aV,aY,aI,aW,bI,b6,bQ,aX,aB,bZ,nU] <;> rfl
theorem GX(t:Stp)(M:MemS)(l_:List (Int × Int))(b_:Int):eL t (M.sh l_ b_)=(eL t M).sh l_ b_:=by
 unfold eL;simp only[aU,aV,aY,aI,aW,bI,b6,bQ,aX,aB,bZ,KM] <;> rfl
theorem GY(t:Stp)(M:MemS)(l_:List (Int × Int))(b_:Int):fF t (M.sh l_ b_)=(fF t M).sh l_ b_:=by
 unfold fF;simp only[aU,aV,aY,aI,aW,bI,b6,bQ,aX,aB,bZ,gm] <;> rfl
theorem GZ(t:Stp)(M:MemS)(l_:List (Int × Int))(b_:Int):dP t (M.sh l_ b_)=(dP t M).sh l_ b_:=by
 unfold dP;simp only[aU,aV,aY,aI,aW,bI,b6,bQ,aX,aB,bZ,Ah,GX,GY] <;> rfl
theorem xx(t:Stp)(M:MemS)(l_:List (Int × Int))(b_:Int):bH t (M.sh l_ b_)=(bH t M).sh l_ b_:=by
 unfold bH;simp only[aU,aV,aY,aI,aW,bI,b6,bQ,aX,aB,bZ,gm,D9] <;> rfl
theorem KN(t:Stp)(M:MemS)(l_:List (Int × Int))(b_:Int):eX t (M.sh l_ b_)=(eX t M).sh l_ b_:=by
 unfold eX;simp only[aU,aV,aY,aI,aW,bI,b6,bQ,aX,aB,bZ,gm,GV] <;> rfl
theorem KO(g:Gm)(M:MemS)(l:List (Int × Int))(b:Int):g.step (M.sh l b)=g.step M:=rfl
theorem vi(g:Gm)(M:MemS)(l:List (Int × Int))(b:Int):eT g (M.sh l b)=(eT g M).sh l b:=by
 unfold eT;simp only[KO,aU,D2,KJ,GW,D7,xx,GZ,KN,GO,aW,aI]
theorem G1(g:Gm)(M:MemS)(l:List (Int × Int))(b:Int):jl g (M.sh l b)=jl g M:=rfl
theorem B7(g:Gm)(l:List (Int × Int))(b:Int):∀ (n:Nat) (M:MemS),fX g n (M.sh l b)=(fX g n M).sh l b
 | 0,_=>rfl
 | n+1,M=>by rw[fX,fX,jm,jm,vi,bI];exact B7 g l b n _
theorem xy(g:Gm)(l:List (Int × Int))(b:Int):∀ (n:Nat) (M:MemS),effsV g n (M.sh l b)=effsV g n M
 | 0,_=>rfl
 | n+1,M=>by rw[effsV,effsV,jm,jm,vi,bI,bQ,aX,xy g l b n]
def xz(g:Gm):Nat -> MemS -> Nat
 | 0,_=>0
 | f+1,M=>if jl g M=true then 0 else xz g f (jm g M)+1
theorem G2{g:Gm}:∀ (m f:Nat) (M:MemS),dU g (m+1) M -> m<f -> xz g f M=m
 | m,0,M,_,h=>by omega
 | 0,f+1,M,h,_=>by
  rcases h.2 with ⟨_,e⟩|⟨_,e⟩
  ·rw[xz,if_pos e]
  ·exact e.elim
 | m+1,f+1,M,h,hf=>by
  rcases h.2 with ⟨e,_⟩|⟨e1,e2⟩
  ·omega
  ·rw[xz,if_neg (by rw[e1];simp),G2 m f _ e2 (by omega)]
def gn(g:Gm)(M:MemS):MemS:=fX g (xz g 1000 M+1) M
def mC(g:Gm)(M:MemS):List Eff:=effsV g (xz g 1000 M+1) M
theorem Ai{g g':Gm}(h:GEq g g'):∀ (f:Nat) (M:MemS),xz g f M=xz g' f M
 | 0,_=>rfl
 | f+1,M=>by rw[xz,xz,GL h,jm,jm,vf h,Ai h f]
theorem Aj{g g':Gm}(h:GEq g g')(M:MemS):gn g M=gn g' M:=by rw[gn,gn,Ai h,B5 h]
theorem G3{g g':Gm}(h:GEq g g')(M:MemS):mC g M=mC g' M:=by rw[mC,mC,Ai h,xt h]
theorem Ak(g:Gm)(l:List (Int × Int))(b:Int):∀ (f:Nat) (M:MemS),xz g f (M.sh l b)=xz g f M
 | 0,_=>rfl
 | f+1,M=>by rw[xz,xz,G1,jm,jm,vi,bI,Ak g l b f]
theorem vj(g:Gm)(M:MemS)(l:List (Int × Int))(b:Int):gn g (M.sh l b)=(gn g M).sh l b:=by rw[gn,gn,Ak,B7]
theorem G4(g:Gm)(M:MemS)(l:List (Int × Int))(b:Int):mC g (M.sh l b)=mC g M:=by rw[mC,mC,Ak,xy]
theorem ln(M:MemS):(MemS.sh ⟨M.cs,[],0⟩ M.lg M.base)=M:=by cases M;simp[MemS.sh]
theorem vk(g:Gm){M N:MemS}(h:M.cs=N.cs):(gn g M).cs=(gn g N).cs:=by
 rw[<- ln M,<- ln N,vj,vj,h];rfl
theorem vn(g:Gm){M N:MemS}(h:M.cs=N.cs):mC g M=mC g N:=by
 rw[<- ln M,<- ln N,G4,G4,h]
def i7(g:Gm):Nat -> MemS -> List (Eff × Bool)
 | 0,_=>[]
 | n+1,M=>((eT g M).e,(eT g M).em)::i7 g n (jm g M)
theorem i8(g:Gm):∀ (n:Nat) (M:MemS),(i7 g n M).length=n
 | 0,_=>rfl
 | n+1,M=>by rw[i7,aaN,i8 g n]
def mr:List (Eff × Bool) -> List Eff
 | []=>[]
 | x::l=>(if x.2=true then [x.1] else [])++mr l
theorem xA(g:Gm):∀ (n:Nat) (M:MemS),mr (i7 g n M)=effsV g n M
 | 0,_=>rfl
 | n+1,M=>by rw[i7,mr,xA g n,effsV]
theorem qU:∀ (l m:List (Eff × Bool)),mr (l++m)=mr l++mr m
 | [],m=>rfl
 | x::l,m=>by rw[List.cons_append,mr,mr,qU l m,aaD]
theorem xB:∀ (l:List (Eff × Bool)),(mr l).length <= l.length
 | []=>aaI _
 | x::l=>by
  have:=xB l;rw[mr,aaK,aaN];split
  ·simp;omega
  ·simp;omega
theorem G5{l:List (Eff × Bool)}{i:Nat}{x:Eff × Bool}(h:l[i]?=some x)(e:x.2=true):mr (l.take (i+1))=mr (l.take i)++[x.1]:=by
 rw[List.take_add_one,h,qU];show _++((if x.2=true then [x.1] else [])++[])=_;rw[if_pos e];rfl
theorem KP{l:List (Eff × Bool)}{i:Nat}{x:Eff × Bool}(h:l[i]?=some x)(e:¬ x.2=true):mr (l.take (i+1))=mr (l.take i):=by
 rw[List.take_add_one,h,qU];show _++((if x.2=true then [x.1] else [])++[])=_;rw[if_neg e];simp
theorem gN{g:Gm}{l:List (Eff × Bool)}{i r:Nat}{M:MemS}(h:l.drop i=i7 g (r+1) M):l[i]?=some ((eT g M).e,(eT g M).em) /\ l.drop (i+1)=i7 g r (jm g M):=by
 constructor
 ·have:=congrArg (·[0]?) h;simpa [i7] using this
 ·have:=congrArg List.tail h;rwa [List.tail_drop] at this
theorem bV{p:MemS -> Prop}{c:Prop}[Decidable c]{A B:MemS}(h1:p A)(h2:p B):p (if c then A else B):=by split <;> assumption
theorem bn{p:MemS -> Prop}{c:Prop}[Decidable c]{A B:VR}(h1:p A.M)(h2:p B.M):p (if c then A else B).M:=by split <;> assumption
theorem dk{p:MemS -> Prop}{r:VR}(h:p r.M):p r.z.M:=h
theorem gq{p:MemS -> Prop}(hp:∀ (M:MemS) (i v:Int),p M -> p (M.set i v))(t:Stp)(ph j:Int)(M:MemS)(Of:p M):p (aL t ph j M):=by
 unfold aL
 repeat' (first|with_reducible assumption|with_reducible apply hp|with_reducible apply bV|with_reducible apply bn|with_reducible apply dk|split|assumption)
theorem Al{p:MemS -> Prop}(hp:∀ (M:MemS) (i v:Int),p M -> p (M.set i v))(t:Stp)(k:Int)(m:Mot)(M:MemS)(Of:p M):p (dm t k m M):=by
 unfold dm
 repeat' (first|with_reducible assumption|with_reducible apply hp|with_reducible apply bV|with_reducible apply bn|with_reducible apply dk|split|assumption)
theorem Ea{p:MemS -> Prop}(hp:∀ (M:MemS) (i v:Int),p M -> p (M.set i v))(t:Stp)(c sp pos lo hi:Int)(M:MemS)(Of:p M):p (dQ t c sp pos lo hi M):=by
 unfold dQ
 repeat' (first|with_reducible assumption|with_reducible apply hp|with_reducible apply bV|with_reducible apply bn|with_reducible apply dk|split|assumption)
theorem Eb{p:MemS -> Prop}(hp:∀ (M:MemS) (i v:Int),p M -> p (M.set i v))(t:Stp)(M:MemS)(Of:p M):p (bg t M):=by
 unfold bg
 repeat' (first|with_reducible assumption|with_reducible apply hp|with_reducible apply bV|with_reducible apply bn|with_reducible apply dk|split|assumption)
theorem Ec{p:MemS -> Prop}(hp:∀ (M:MemS) (i v:Int),p M -> p (M.set i v))(t:Stp)(M:MemS)(Of:p M):p (bx t M):=by
 unfold bx
 repeat' (first|with_reducible assumption|with_reducible apply hp|with_reducible apply bV|with_reducible apply bn|with_reducible apply dk|split|assumption)
theorem Ed{p:MemS -> Prop}(hp:∀ (M:MemS) (i v:Int),p M -> p (M.set i v))(t:Stp)(M:MemS)(Of:p M):p (bS t M):=by
 unfold bS
 repeat' (first|with_reducible assumption|with_reducible apply hp|with_reducible apply gq hp|with_reducible apply bV|with_reducible apply bn|with_reducible apply dk|split|assumption)
theorem Ee{p:MemS -> Prop}(hp:∀ (M:MemS) (i v:Int),p M -> p (M.set i v))(t:Stp)(M:MemS)(Of:p M):p (aQ t M):=by
 unfold aQ
 repeat' (first|with_reducible assumption|with_reducible apply hp|with_reducible apply Eb hp|with_reducible apply Ec hp|with_reducible apply Ed hp|with_reducible apply bV|with_reducible apply bn|with_reducible apply dk|split|assumption)
theorem G6{p:MemS -> Prop}(hp:∀ (M:MemS) (i v:Int),p M -> p (M.set i v))(t:Stp)(M:MemS)(Of:p M):p (fQ t M):=by
 unfold fQ
 repeat' (first|with_reducible assumption|with_reducible apply hp|with_reducible apply bV|with_reducible apply bn|with_reducible apply dk|split|assumption)
theorem tI{p:MemS -> Prop}(hp:∀ (M:MemS) (i v:Int),p M -> p (M.set i v))(M:MemS)(h:p M):∀n,p (cE M n)
 | 0=>h
 | n+1=>by rw[cE];exact hp _ _ _ (tI hp M h n)
theorem G7{p:MemS -> Prop}(hp:∀ (M:MemS) (i v:Int),p M -> p (M.set i v))(t:Stp)(M:MemS)(Of:p M):p (ga t M):=by
 unfold ga
 repeat' (first|with_reducible assumption|with_reducible apply hp|with_reducible apply tI hp|with_reducible apply bV|with_reducible apply bn|with_reducible apply dk|split|assumption)
theorem G8{p:MemS -> Prop}(hp:∀ (M:MemS) (i v:Int),p M -> p (M.set i v))(t:Stp)(M:MemS)(Of:p M):p (du t M):=by
 unfold du
 repeat' (first|with_reducible assumption|with_reducible apply hp|with_reducible apply G6 hp|with_reducible apply G7 hp|with_reducible apply bV|with_reducible apply bn|with_reducible apply dk|split|assumption)
theorem Eg{p:MemS -> Prop}(hp:∀ (M:MemS) (i v:Int),p M -> p (M.set i v))(t:Stp)(M:MemS)(Of:p M):p (bF t M):=by
 unfold bF
 repeat' (first|with_reducible assumption|with_reducible apply hp|with_reducible apply bV|with_reducible apply bn|with_reducible apply dk|split|assumption)
theorem Eh{p:MemS -> Prop}(hp:∀ (M:MemS) (i v:Int),p M -> p (M.set i v))(t:Stp)(M:MemS)(Of:p M):p (bJ t M):=by
 unfold bJ
 repeat' (first|with_reducible assumption|with_reducible apply hp|with_reducible apply bV|with_reducible apply bn|with_reducible apply dk|split|assumption)
theorem Ei{p:MemS -> Prop}(hp:∀ (M:MemS) (i v:Int),p M -> p (M.set i v))(t:Stp)(M:MemS)(Of:p M):p (bU t M):=by
 unfold bU
 repeat' (first|with_reducible assumption|with_reducible apply hp|with_reducible apply gq hp|with_reducible apply bV|with_reducible apply bn|with_reducible apply dk|split|assumption)
theorem Ej{p:MemS -> Prop}(hp:∀ (M:MemS) (i v:Int),p M -> p (M.set i v))(t:Stp)(M:MemS)(Of:p M):p (aR t M):=by
 unfold aR
 repeat' (first|with_reducible assumption|with_reducible apply hp|with_reducible apply Eg hp|with_reducible apply Eh hp|with_reducible apply Ei hp|with_reducible apply bV|with_reducible apply bn|with_reducible apply dk|split|assumption)
theorem Am{p:MemS -> Prop}(hp:∀ (M:MemS) (i v:Int),p M -> p (M.set i v))(t:Stp)(M:MemS)(Of:p M):p (cW t M):=by
 unfold cW
 repeat' (first|with_reducible assumption|with_reducible apply hp|with_reducible apply Ea hp|with_reducible apply bV|with_reducible apply bn|with_reducible apply dk|split|assumption)
theorem G9{p:MemS -> Prop}(hp:∀ (M:MemS) (i v:Int),p M -> p (M.set i v))(k v:Int)(M:MemS)(Of:p M):p (cM k v M).M:=by
 unfold cM
 repeat' (first|with_reducible assumption|with_reducible apply hp|with_reducible apply bV|with_reducible apply bn|with_reducible apply dk|split|assumption)
theorem Hb{p:MemS -> Prop}(hp:∀ (M:MemS) (i v:Int),p M -> p (M.set i v))(S:Setup)(op n a b:Int)(M:MemS)(Of:p M):p (aC S op n a b M).M:=by
 unfold aC
 repeat' (first|with_reducible assumption|with_reducible apply hp|with_reducible apply G9 hp|with_reducible apply bV|with_reducible apply bn|with_reducible apply dk|split|assumption)
theorem KQ{p:MemS -> Prop}(hp:∀ (M:MemS) (i v:Int),p M -> p (M.set i v))(op sp pc fuel:Int)(M:MemS)(Of:p M):p (dJ op sp pc fuel M):=by
 unfold dJ
 repeat' (first|with_reducible assumption|with_reducible apply hp|with_reducible apply bV|with_reducible apply bn|with_reducible apply dk|split|assumption)
theorem Hc{p:MemS -> Prop}(hp:∀ (M:MemS) (i v:Int),p M -> p (M.set i v))(S:Setup)(op n sp pc fuel:Int)(M:MemS)(Of:p M):p (bP S op n sp pc fuel M).M:=by
 unfold bP
 repeat' (first|with_reducible assumption|with_reducible apply hp|with_reducible apply Hb hp|with_reducible apply KQ hp|with_reducible apply bV|with_reducible apply bn|with_reducible apply dk|split|assumption)
theorem He{p:MemS -> Prop}(hp:∀ (M:MemS) (i v:Int),p M -> p (M.set i v))(op sp:Int)(r:VR)(Of:p r.M):p (cf op sp r).M:=by
 unfold cf
 repeat' (first|with_reducible assumption|with_reducible apply hp|with_reducible apply bV|with_reducible apply bn|with_reducible apply dk|split|assumption)
theorem Hf{p:MemS -> Prop}(hp:∀ (M:MemS) (i v:Int),p M -> p (M.set i v))(S:Setup)(code:List Ins)(n:Nat)(M:MemS)(Of:p M):p (ak S code n M).M:=by
 unfold ak
 repeat' (first|with_reducible assumption|with_reducible apply hp|with_reducible apply Hc hp|with_reducible apply He hp|with_reducible apply bV|with_reducible apply bn|with_reducible apply dk|split|assumption)
theorem Ek{p:MemS -> Prop}(hp:∀ (M:MemS) (i v:Int),p M -> p (M.set i v))(e fuel self other:Int)(M:MemS)(Of:p M):p (aM e fuel self other M):=by
 unfold aM
 repeat' (first|with_reducible assumption|with_reducible apply hp|with_reducible apply bV|with_reducible apply bn|with_reducible apply dk|split|assumption)
theorem vp{p:MemS -> Prop}(hp:∀ (M:MemS) (i v:Int),p M -> p (M.set i v))(e:Int)(t:Stp)(self other:Int)(M:MemS)(Of:p M):p (eK e t self other M).M:=by
 unfold eK
 repeat' (first|with_reducible assumption|with_reducible apply hp|with_reducible apply Hf hp|with_reducible apply Ek hp|with_reducible apply bV|with_reducible apply bn|with_reducible apply dk|split|assumption)
theorem jS{p:MemS -> Prop}(hp:∀ (M:MemS) (i v:Int),p M -> p (M.set i v))(r:VR)(over:Bool)(t:Stp)(Se:Bool)(M:MemS)(Of:p r.M)(Xa:p M):p (dw r over t Se M).M:=by
 unfold dw
 repeat' (first|with_reducible assumption|with_reducible apply hp|with_reducible apply bV|with_reducible apply bn|with_reducible apply dk|split|assumption)
theorem Hg{p:MemS -> Prop}(hp:∀ (M:MemS) (i v:Int),p M -> p (M.set i v))(t:Stp)(o:Int)(c:Bool)(M:MemS)(h:p M):p (cN t o c M).M:=by
 unfold cN cg jj
 first|exact jS hp _ _ _ _ _ h|exact jS hp _ _ _ _ h|(repeat' (first|assumption|apply jS hp|apply vp hp|split))
theorem Hh{p:MemS -> Prop}(hp:∀ (M:MemS) (i v:Int),p M -> p (M.set i v))(t:Stp)(o:Int)(c:Bool)(M:MemS)(h:p M):p (cO t o c M).M:=by
 unfold cO cj jk
 first|exact jS hp _ _ _ _ _ h|exact jS hp _ _ _ _ h|(repeat' (first|assumption|apply jS hp|apply vp hp|split))
theorem KR{p:MemS -> Prop}(hp:∀ (M:MemS) (i v:Int),p M -> p (M.set i v))(t:Stp)(M:MemS)(Of:p M):p (eV t M).M:=by
 unfold eV
 repeat' (first|with_reducible assumption|with_reducible apply hp|with_reducible apply gq hp|with_reducible apply Hg hp|with_reducible apply bV|with_reducible apply bn|with_reducible apply dk|split|assumption)
theorem Hj{p:MemS -> Prop}(hp:∀ (M:MemS) (i v:Int),p M -> p (M.set i v))(t:Stp)(M:MemS)(Of:p M):p (cT t M).M:=by
 unfold cT
 repeat' (first|with_reducible assumption|with_reducible apply hp|with_reducible apply gq hp|with_reducible apply vp hp|with_reducible apply bV|with_reducible apply bn|with_reducible apply dk|split|assumption)
theorem xC{p:MemS -> Prop}(hp:∀ (M:MemS) (i v:Int),p M -> p (M.set i v))(t:Stp)(M:MemS)(Of:p M):p (fE t M):=by
 unfold fE
 repeat' (first|with_reducible assumption|with_reducible apply hp|with_reducible apply Al hp|with_reducible apply bV|with_reducible apply bn|with_reducible apply dk|split|assumption)
theorem El{p:MemS -> Prop}(hp:∀ (M:MemS) (i v:Int),p M -> p (M.set i v))(t:Stp)(M:MemS)(Of:p M):p (dK t M):=by
 unfold dK
 repeat' (first|with_reducible assumption|with_reducible apply hp|with_reducible apply xC hp|with_reducible apply bV|with_reducible apply bn|with_reducible apply dk|split|assumption)
theorem Hk{p:MemS -> Prop}(hp:∀ (M:MemS) (i v:Int),p M -> p (M.set i v))(t:Stp)(M:MemS)(Of:p M):p (eL t M):=by
 unfold eL
 repeat' (first|with_reducible assumption|with_reducible apply hp|with_reducible apply bV|with_reducible apply bn|with_reducible apply dk|split|assumption)
theorem Hm{p:MemS -> Prop}(hp:∀ (M:MemS) (i v:Int),p M -> p (M.set i v))(t:Stp)(M:MemS)(Of:p M):p (fF t M):=by
 unfold fF
 repeat' (first|with_reducible assumption|with_reducible apply hp|with_reducible apply gq hp|with_reducible apply bV|with_reducible apply bn|with_reducible apply dk|split|assumption)
theorem Hn{p:MemS -> Prop}(hp:∀ (M:MemS) (i v:Int),p M -> p (M.set i v))(t:Stp)(M:MemS)(Of:p M):p (dP t M):=by
 unfold dP
 repeat' (first|with_reducible assumption|with_reducible apply hp|with_reducible apply Am hp|with_reducible apply Hk hp|with_reducible apply Hm hp|with_reducible apply bV|with_reducible apply bn|with_reducible apply dk|split|assumption)
theorem xD{p:MemS -> Prop}(hp:∀ (M:MemS) (i v:Int),p M -> p (M.set i v))(t:Stp)(M:MemS)(Of:p M):p (bH t M):=by
 unfold bH
 repeat' (first|with_reducible assumption|with_reducible apply hp|with_reducible apply gq hp|with_reducible apply El hp|with_reducible apply bV|with_reducible apply bn|with_reducible apply dk|split|assumption)
theorem KS{p:MemS -> Prop}(hp:∀ (M:MemS) (i v:Int),p M -> p (M.set i v))(t:Stp)(M:MemS)(Of:p M):p (eX t M).M:=by
 unfold eX
 repeat' (first|with_reducible assumption|with_reducible apply hp|with_reducible apply gq hp|with_reducible apply Hh hp|with_reducible apply bV|with_reducible apply bn|with_reducible apply dk|split|assumption)
theorem NF{p:MemS -> Prop}(hp:∀ (M:MemS) (i v:Int),p M -> p (M.set i v))(g:Gm)(M:MemS)(h:p M):p (eT g M).M:=by
 unfold eT
 repeat' (first|with_reducible assumption|with_reducible apply Ee hp|with_reducible apply G8 hp|with_reducible apply Ej hp|with_reducible apply KR hp|with_reducible apply Hj hp|with_reducible apply Hn hp|with_reducible apply xD hp|with_reducible apply KS hp|with_reducible apply bV|with_reducible apply bn|split)
theorem B8{p:MemS -> Prop}(hp:∀ (M:MemS) (i v:Int),p M -> p (M.set i v))(g:Gm):∀ (n:Nat) (M:MemS),p M -> p (fX g n M)
 | 0,_,h=>h
 | n+1,M,h=>by rw[fX,jm];exact B8 hp g n _ (NF hp g M h)
theorem NG{p:MemS -> Prop}(hp:∀ (M:MemS) (i v:Int),p M -> p (M.set i v))(g:Gm)(M:MemS)(h:p M):p (gn g M):=B8 hp g _ M h
def gO(cs:List Int)(es:List (Int × Int)):List Int:=es.foldr (λ e c=>c.set e.1.toNat e.2) cs
structure UndP(c:List Int)(M:MemS):Prop where
 und:gO M.cs M.lg=c
 len:M.cs.length=c.length
 ent:∀e∈M.lg,0 <= e.1 /\ e.1<(c.length:Int)
theorem UndP.set{c:List Int}(M:MemS)(i v:Int)(h:UndP c M):UndP c (M.set i v):=by
 unfold MemS.set;split
 ·next hi =>
  have hl:=h.len;refine⟨?_,by show (M.cs.set _ _).length=_;rw[List.length_set];exact hl,?_⟩
  ·show gO (M.cs.set _ _) (M.lg++[_])=c;unfold gO;rw[List.foldr_append];show M.lg.foldr _ ((M.cs.set i.toNat v).set i.toNat (M.cs.getD i.toNat 0))=c;have e:(M.cs.set i.toNat v).set i.toNat (M.cs.getD i.toNat 0)=M.cs:=by
    rw[List.set_set];apply List.ext_getElem?;intro k;rw[List.getElem?_set];split
    ·next e=>subst e;rw[if_pos (by omega),aaE,aaO (by omega)];rfl
    ·rfl
   rw[e];exact h.und
  ·intro e he;rcases List.mem_append.1 he with he|he
   ·exact h.ent e he
   ·rw[List.mem_singleton] at he;subst he;exact⟨by omega,by show i<_;omega⟩
 ·exact h
theorem An(c:List Int)(b:Int):UndP c ⟨c,[],b⟩:=⟨rfl,rfl,λ _ h=>by cases h⟩
theorem NH(g:Gm)(M:MemS):∃es,(gn g M).lg=M.lg++es /\ (gn g M).base=M.base /\ UndP M.cs ⟨(gn g M).cs,es,0⟩:=by
 have h:=NG (p:=UndP M.cs) UndP.set g ⟨M.cs,[],0⟩ (An M.cs 0);have e:gn g M=(gn g ⟨M.cs,[],0⟩).sh M.lg M.base:=by rw[<- vj,ln]
 rw[e];refine⟨(gn g ⟨M.cs,[],0⟩).lg,rfl,rfl,?_⟩;exact⟨h.und,h.len,h.ent⟩
end Go.Proofs.YtdppjkjbghbnjaaGreatDoor
