import Derived.Test.YtdppjkjbghbnjaaGreatDoorC07
set_option maxHeartbeats 4000000
set_option maxRecDepth 100000
set_option linter.all false
namespace Go.Proofs.YtdppjkjbghbnjaaGreatDoor
open IntKind
open Go.RowKit
abbrev tSk(tb mb:Nat)(t:Stp):Nat × Blk:=(tb,.lit [.iface 113 (vP mb 0),vI t.S.players,vS t.S.bb (t.S.bo*9) t.S.nb t.S.bc,vI t.S.box.x0,vI t.S.box.y0,vI t.S.box.x1,vI t.S.box.y1,.slice t.S.rA t.S.rn t.S.rc,.slice t.S.dA t.S.dn t.S.dc,vI t.S.fog,vI t.S.g.x,vI t.S.g.y,vI t.S.push,vI t.S.drag,vI t.S.rest,vI t.S.rounds,vI t.S.fuel,.slice t.cA t.cn t.cc,vI t.e0,vI t.e1,vI t.e2,vI t.version,vS t.ib (t.io*3) t.ni t.ic,vI t.i,vI t.j,.bool true,vI t.f0,vI t.f1,vI t.f2,vI t.f3,.bool t.emitted] 238 (0,0))
abbrev sBk(tb mb:Nat)(t:Stp):Nat × Blk:=(tb,.lit (Stp.l t mb) 238 (0,0))
def sF(t:Stp)(M:MemS):Con × Bool:=cz (t.S.body t.i.toNat).sh ⟨(ao t.S M t.i).px,(ao t.S M t.i).py⟩ (t.S.body t.j.toNat).sh ⟨(ao t.S M t.j).px,(ao t.S M t.j).py⟩
def xa(t:Stp)(M:MemS):Mot × Mot:=cB (ao t.S M t.i) (ao t.S M t.j) (sF t M).1 t.S.rest
def fC(t:Stp)(M:MemS):MemS:=((dq t t.j (xa t M).2 (dq t t.i (xa t M).1 M)).set (af t.S t.i+6) (bd (t.j+1))).set (af t.S t.j+6) (bd (t.i+1))
def dK(t:Stp)(M:MemS):MemS:=if 0 <= t.i /\ t.i<t.S.nb then if 0 <= t.j /\ t.j<t.S.nb then if (sF t M).2=true then fC t M else M else M else M
def sG(t:Stp)(M:MemS):Int:=mB (t.S.body t.i.toNat).sh ⟨(ao t.S M t.i).px,(ao t.S M t.i).py⟩ ⟨(ao t.S M t.i).vx,(ao t.S M t.i).vy⟩ (t.S.body t.j.toNat).sh ⟨(ao t.S M t.j).px,(ao t.S M t.j).py⟩ ⟨0,0⟩
def eL(t:Stp)(M:MemS):MemS:=if t.i=t.j then M else if movP t.S t.i then (if sG t M<M.get 5 then M.set 5 (sG t M) else M) else M
def fD(t:Stp)(M:MemS):MemS:=if bd (t.i+1)<t.S.nb then ((M.set 2 (bd (t.i+1))).set 3 0).set 5 1024 else (aM t 6 0 M).set 5 0
def dQ(t:Stp)(M:MemS):MemS:=if 0 <= t.j /\ t.j<t.S.nb then (eL t M).set 3 (bd (t.j+1)) else fD t (if movP t.S t.i then cU t M else M)
def dz(i j n r:Int):Int × Int × Int:=if bd (j+1)<n then (r,i,bd (j+1)) else if bd (i+2)<n then (r,bd (i+1),bd (i+2)) else (bd (r+1),0,1)
def bF(t:Stp)(M:MemS):MemS:=if (t.S.nb:Int)<2 then (aM t 5 0 M).set 5 1024 else if M.get 4 >= t.S.rounds then (aM t 5 0 M).set 5 1024 else (((dK t M).set 4 (dz t.i t.j t.S.nb (M.get 4)).1).set 2 (dz t.i t.j t.S.nb (M.get 4)).2.1).set 3 (dz t.i t.j t.S.nb (M.get 4)).2.2
theorem zZ(t:Stp)  (tb mb:Nat) (M:MemS) (k:Nat) (T F:HL) (hM:MemH mb M (k+10) T) (hS:SetIn F t.S) :Sp Tryz.prog 168 #[vP tb 0] (ap [(sBk tb mb t)] [T]) F (λ u H'=>∃x,H'=ap [(sBk tb mb t)] [x] /\ (MemH mb (dK t M) k x)):=by
 have hp:=hS.pl;have hn:=hS.nb;have hr:=hS.room;refine aau Tryz.func168 rfl (mc hS.blk mn) (A:=[(sBk tb mb t)]) (Ts:=[T]) rfl λ w0=>?_;refine ae 8 [.own 0] λ _=>aai (qn t t.i tb mb _ (aw 0))<|ae 2 [] λ _=>aan (0 <= t.i /\ t.i<t.S.nb) 13 (λ h1=>?_) λ h1=>?_
 ·refine ae 5 [.own 0] λ _=>aai (qn t t.j tb mb _ (aw 0))<|ae 4 [] λ _=>aan (0 <= t.j /\ t.j<t.S.nb) 21 (λ h2=>?_) λ h2=>?_
  ·refine ae 4 [] λ _=>aal [14,15] []<|ag [] [0,1,6,7,2,8,3,9,4,10] (aab 2)<|aac [] 5 (λ X_=>(fH t t.i tb mb M _ T _ (fd 0) hS.up.up hM (aO 0) h1))<|aac [] 11 (λ X_=>(fH t t.j tb mb M _ T _ (fd 0) hS.up.up hM (aO 0) h2))<|jT (σ:=Nat × Nat) (λ ⟨n3,n4⟩=>⟨[(0,vP tb 0),(2,vP (n3+0) 0),(3,vP (n4+0) 0)],[((n4+0),.lit [vI ((ao t.S M t.j).px),vI ((ao t.S M t.j).py),vI ((ao t.S M t.j).vx),vI ((ao t.S M t.j).vy),vI ((ao t.S M t.j).inv)] 88 (0,0)),((n3+0),.lit [vI ((ao t.S M t.i).px),vI ((ao t.S M t.i).py),vI ((ao t.S M t.i).vx),vI ((ao t.S M t.i).vy),vI ((ao t.S M t.i).inv)] 88 (0,0)),(sBk tb mb t)],[T],True,0⟩) ?_ ?_
   ·rintro⟨n3,n4⟩;refine ae 2 [] λ _=>aal [33] [0,1,2]<|aA [0,1,2] [0,5,12,14,19,26,1,6,13,15,20,27,2,7,16,21,3,8,17,22,4,18,9,23,10,24,11,25] [.own 1,.own 1,.own 0,.own 0,.own 2,.own 2,.own 2,.own 2,.ix ((t.i).toNat),.ix ((t.j).toNat),.rorow 0 (t.S.bo+((t.i).toNat)) 0,.rorow 0 (t.S.bo+((t.i).toNat)) 1,.rorow 0 (t.S.bo+((t.j).toNat)) 0,.rorow 0 (t.S.bo+((t.j).toNat)) 1] [((t.S.bo*9+((t.j).toNat)*9)+1)=(t.S.bo+((t.j).toNat))*9+1 /\ (t.S.bo+((t.j).toNat))<t.S.bR,(t.S.bo*9+((t.j).toNat)*9)=(t.S.bo+((t.j).toNat))*9+0 /\ (t.S.bo+((t.j).toNat))<t.S.bR,((t.S.bo*9+((t.i).toNat)*9)+1)=(t.S.bo+((t.i).toNat))*9+1 /\ (t.S.bo+((t.i).toNat))<t.S.bR,(t.S.bo*9+((t.i).toNat)*9)=(t.S.bo+((t.i).toNat))*9+0 /\ (t.S.bo+((t.i).toNat))<t.S.bR,t.j=(((t.j).toNat:Nat):Int) /\ (t.j).toNat<t.S.nb,t.i=(((t.i).toNat:Nat):Int) /\ (t.i).toNat<t.S.nb]<|aac [0,1,2] 28 (λ X_=>(pK (t.S.bods.getD (t.S.bo+((t.i).toNat)) dB).sh (⟨(ao t.S M t.i).px,(ao t.S M t.i).py⟩:V2) (t.S.bods.getD (t.S.bo+((t.j).toNat)) dB).sh (⟨(ao t.S M t.j).px,(ao t.S M t.j).py⟩:V2) _ ((hS.shp ((t.i).toNat) (by omega)).up.up) ((hS.shp ((t.j).toNat) (by omega)).up.up)))<|ag [0,1,2] [29,30,31] []<|aae 32 (aag [] [] λ n6=>?_);refine aae 33 (aag [1,2,3] (aab 3) λ _=>?_);refine ag [1,2,3] [34] []<|aad<|ae 8 [] λ _=>qI ((cz (t.S.bods.getD (t.S.bo+((t.i).toNat)) dB).sh (⟨(ao t.S M t.i).px,(ao t.S M t.i).py⟩:V2) (t.S.bods.getD (t.S.bo+((t.j).toNat)) dB).sh (⟨(ao t.S M t.j).px,(ao t.S M t.j).py⟩:V2)).2) 67 (λ h7=>?_) λ h7=>?_
    ·refine ae 4 [] λ _=>aal [12,13] [0,3]<|ag [0,3] [0,1,2,3,4,5,6,7] (ow 2 5++ow 1 5++[.own 0,.own 0,.own 0,.own 3])<|aac [0,3] 8 (λ X_=>(w7 (ao t.S M t.i) (ao t.S M t.j) (cz (t.S.bods.getD (t.S.bo+((t.i).toNat)) dB).sh (⟨(ao t.S M t.i).px,(ao t.S M t.i).py⟩:V2) (t.S.bods.getD (t.S.bo+((t.j).toNat)) dB).sh (⟨(ao t.S M t.j).px,(ao t.S M t.j).py⟩:V2)).1 t.S.rest _))<|ag [0,3] [9,10,11] []<|aae 12 (aag [0,3] (ow 2 5) λ _=>?_);refine aae 13 (aag [0,3] (ow 1 5) λ _=>?_);refine aad<|ae 2 [] λ _=>aal [6] []<|ag [] [0,1,5,2,3,4] (ow 2 5++[.own 3])<|aae 6 (aaf [] [3] [0] (mA t t.i ((cB (ao t.S M t.i) (ao t.S M t.j) (cz (t.S.bods.getD (t.S.bo+((t.i).toNat)) dB).sh (⟨(ao t.S M t.i).px,(ao t.S M t.i).py⟩:V2) (t.S.bods.getD (t.S.bo+((t.j).toNat)) dB).sh (⟨(ao t.S M t.j).px,(ao t.S M t.j).py⟩:V2)).1 t.S.rest).1) tb mb M (k+6) T _ hM hS.up ) ?_);rintro _ T8 V1;refine aad<|ae 2 [] λ _=>aal [6] []<|ag [] [0,1,5,2,3,4] (ow 2 5++[.own 0])<|aae 6 (aaf [] [0] [0] (mA t t.j ((cB (ao t.S M t.i) (ao t.S M t.j) (cz (t.S.bods.getD (t.S.bo+((t.i).toNat)) dB).sh (⟨(ao t.S M t.i).px,(ao t.S M t.i).py⟩:V2) (t.S.bods.getD (t.S.bo+((t.j).toNat)) dB).sh (⟨(ao t.S M t.j).px,(ao t.S M t.j).py⟩:V2)).1 t.S.rest).2) tb mb (dq t t.i ((cB (ao t.S M t.i) (ao t.S M t.j) (cz (t.S.bods.getD (t.S.bo+((t.i).toNat)) dB).sh (⟨(ao t.S M t.i).px,(ao t.S M t.i).py⟩:V2) (t.S.bods.getD (t.S.bo+((t.j).toNat)) dB).sh (⟨(ao t.S M t.j).px,(ao t.S M t.j).py⟩:V2)).1 t.S.rest).1) M) (k+2) T8 _ V1 hS.up ) ?_);rintro _ Ui SN;refine aad<|ae 2 [] λ _=>aal [21] []<|ag [] [0,4,8,14,1,5,9,15,2,6,10,16,3,7,11,17,18,19,20] (ow 0 19)<|aac [] 12 (λ X_=>(cQ t.S t.i _ hS.toSetN)) ?_;have alB:=cP hS.toSetN t.i;refine aA [] [13] [.nw] [bn ((af t.S t.i)+6)]<|aae 21 (aaf [] [] [0] (aj ((af t.S t.i)+6) (i64.wrap (t.j+1)) SN) ?_);rintro _ TF TX;refine aad<|ae 1 [] λ _=>aal [21] []<|ag [] [0,4,8,14,1,5,9,15,2,6,10,16,3,7,11,17,18,19,20] (ow 0 19)<|aac [] 12 (λ X_=>(cQ t.S t.j _ hS.toSetN)) ?_;have alA:=cP hS.toSetN t.j;refine aA [] [13] [.nw] [bn ((af t.S t.j)+6)]<|aae 21 (aaf [] [] [0] (aj ((af t.S t.j)+6) (i64.wrap (t.i+1)) TX) ?_);rintro _ Wl Vw;refine aad<|aaq [] [0] [0] (v:=.tuple #[]) (H':=(ap [(sBk tb mb t)] [Wl])) ?_;refine⟨Wl,rfl,?_⟩;have e:dK t M=(((dq t t.j ((cB (ao t.S M t.i) (ao t.S M t.j) (cz (t.S.bods.getD (t.S.bo+((t.i).toNat)) dB).sh (⟨(ao t.S M t.i).px,(ao t.S M t.i).py⟩:V2) (t.S.bods.getD (t.S.bo+((t.j).toNat)) dB).sh (⟨(ao t.S M t.j).px,(ao t.S M t.j).py⟩:V2)).1 t.S.rest).2) (dq t t.i ((cB (ao t.S M t.i) (ao t.S M t.j) (cz (t.S.bods.getD (t.S.bo+((t.i).toNat)) dB).sh (⟨(ao t.S M t.i).px,(ao t.S M t.i).py⟩:V2) (t.S.bods.getD (t.S.bo+((t.j).toNat)) dB).sh (⟨(ao t.S M t.j).px,(ao t.S M t.j).py⟩:V2)).1 t.S.rest).1) M)).set ((af t.S t.i)+6) (i64.wrap (t.j+1))).set ((af t.S t.j)+6) (i64.wrap (t.i+1))):=by
      unfold dK;rw[if_pos (show 0 <= t.i /\ t.i<t.S.nb from h1),if_pos (show 0 <= t.j /\ t.j<t.S.nb from h2),if_pos (show (sF t M).2=true from h7)]
      first|done|rfl
     rw[e];exact Vw.weak (by omega)
    ·refine ae 1 [] λ _=>aaq [] [3] [0] (v:=.tuple #[]) (H':=(ap [(sBk tb mb t)] [T])) ?_;refine⟨T,rfl,?_⟩;have e:dK t M=M:=by
      unfold dK;rw[if_pos (show 0 <= t.i /\ t.i<t.S.nb from h1),if_pos (show 0 <= t.j /\ t.j<t.S.nb from h2),if_neg (show ¬ ((sF t M).2=true) from h7)]
      first|done|rfl
     rw[e];exact hM.weak (by omega)
   ·intro Yt;refine fG 12 13 ?_ ?_
    ·refine aag [] [] λ Yq=>aae 13 (aag [] [] λ VP=>?_);refine aae 14 (aag [] (ow 1 5) λ _=>?_);refine aae 15 (aag [] (ow 0 5) λ _=>?_);exact Yt ⟨Yq,VP⟩ [0,1,2] [0]
    ·refine aag [] [] λ Of=>aae 12 (aag [] [] λ n22=>?_);refine aae 14 (aag [] (ow 0 5) λ _=>?_);refine aae 15 (aag [] (ow 1 5) λ _=>?_);exact Yt ⟨n22,Of⟩ [1,0,2] [0]
  ·refine ae 1 [] λ _=>aaq [] [0] [0] (v:=.tuple #[]) (H':=(ap [(sBk tb mb t)] [T])) ?_;refine⟨T,rfl,?_⟩;have e:dK t M=M:=by
    unfold dK;rw[if_pos (show 0 <= t.i /\ t.i<t.S.nb from h1),if_neg (show ¬ (0 <= t.j /\ t.j<t.S.nb) from h2)]
    first|done|rfl
   rw[e];exact hM.weak (by omega)
 ·refine ae 11 [] λ _=>aaq [] [0] [0] (v:=.tuple #[]) (H':=(ap [(sBk tb mb t)] [T])) ?_;refine⟨T,rfl,?_⟩;have e:dK t M=M:=by
   unfold dK;rw[if_neg (show ¬ (0 <= t.i /\ t.i<t.S.nb) from h1)]
   first|done|rfl
  rw[e];exact hM.weak (by omega)
theorem DL(t:Stp)  (tb mb:Nat) (M:MemS) (k:Nat) (T F:HL) (hM:MemH mb M (k+1) T) (hS:SetIn F t.S) (hj:0 <= t.j /\ t.j<t.S.nb):Sp Tryz.prog 171 #[vP tb 0] (ap [(sBk tb mb t)] [T]) F (λ u H'=>∃x,H'=ap [(sBk tb mb t)] [x] /\ (MemH mb (eL t M) k x)):=by
 have hp:=hS.pl;have hn:=hS.nb;have hr:=hS.room;refine aau Tryz.func171 rfl (mc hS.blk mn) (A:=[(sBk tb mb t)]) (Ts:=[T]) rfl λ w0=>?_;refine ae 2 [] λ _=>aal [] []<|ag [] [0,4,1,5,2,6,3,7,8,9] (aab 2)<|RD.em (t.i=t.j) 14 (λ h1=>?_) λ h1=>?_
 ·refine ag [] [10,11,12,13,14,15,16,17] []<|aad<|ae 2 [] λ _=>aaq [] [0] [0] (v:=.tuple #[]) (H':=(ap [(sBk tb mb t)] [T])) ?_;refine⟨T,rfl,?_⟩;have e:eL t M=M:=by
   unfold eL;rw[if_pos (show t.i=t.j from h1)]
   first|done|rfl
  rw[e];exact hM.weak (by omega)
 ·refine ag [] [10,11,12,13,14] [.own 0]<|aac [] 15 (λ X_=>(ju t t.i tb mb _ (fd 0) hS.up.up))<|ag [] [16,17] []<|aad<|ae 1 [] λ _=>aan (movP t.S t.i) 22 (λ h2=>?_) λ h2=>?_
  ·have:=movP.has h2;refine ae 4 [] λ _=>aal [14,15] []<|ag [] [0,1,6,7,2,8,3,9,4,10] (aab 2)<|aac [] 5 (λ X_=>(fH t t.i tb mb M _ T _ (fd 0) hS.up.up hM (aO 0) (movP.has h2)))<|aac [] 11 (λ X_=>(fH t t.j tb mb M _ T _ (fd 0) hS.up.up hM (aO 0) hj))<|jT (σ:=Nat × Nat) (λ ⟨n3,n4⟩=>⟨[(0,vP tb 0),(2,vP (n3+0) 0),(3,vP (n4+0) 0)],[((n4+0),.lit [vI ((ao t.S M t.j).px),vI ((ao t.S M t.j).py),vI ((ao t.S M t.j).vx),vI ((ao t.S M t.j).vy),vI ((ao t.S M t.j).inv)] 88 (0,0)),((n3+0),.lit [vI ((ao t.S M t.i).px),vI ((ao t.S M t.i).py),vI ((ao t.S M t.i).vx),vI ((ao t.S M t.i).vy),vI ((ao t.S M t.i).inv)] 88 (0,0)),(sBk tb mb t)],[T],True,0⟩) ?_ ?_
   ·rintro⟨n3,n4⟩;refine ae 2 [] λ _=>aal [] []<|aA [] [0,5,12,14,16,21,28,30,1,6,13,15,17,22,29,2,7,18,23,3,8,19,24,4,20,9,25,10,26,11,27] [.own 1,.own 1,.own 1,.own 1,.own 0,.own 0,.own 2,.own 2,.own 2,.own 2,.ix ((t.i).toNat),.ix ((t.j).toNat),.rorow 0 (t.S.bo+((t.i).toNat)) 0,.rorow 0 (t.S.bo+((t.i).toNat)) 1,.rorow 0 (t.S.bo+((t.j).toNat)) 0,.rorow 0 (t.S.bo+((t.j).toNat)) 1] [((t.S.bo*9+((t.j).toNat)*9)+1)=(t.S.bo+((t.j).toNat))*9+1 /\ (t.S.bo+((t.j).toNat))<t.S.bR,(t.S.bo*9+((t.j).toNat)*9)=(t.S.bo+((t.j).toNat))*9+0 /\ (t.S.bo+((t.j).toNat))<t.S.bR,((t.S.bo*9+((t.i).toNat)*9)+1)=(t.S.bo+((t.i).toNat))*9+1 /\ (t.S.bo+((t.i).toNat))<t.S.bR,(t.S.bo*9+((t.i).toNat)*9)=(t.S.bo+((t.i).toNat))*9+0 /\ (t.S.bo+((t.i).toNat))<t.S.bR,t.j=(((t.j).toNat:Nat):Int) /\ (t.j).toNat<t.S.nb,t.i=(((t.i).toNat:Nat):Int) /\ (t.i).toNat<t.S.nb]<|aac [] 31 (λ X_=>(u9 (t.S.bods.getD (t.S.bo+((t.i).toNat)) dB).sh (⟨(ao t.S M t.i).px,(ao t.S M t.i).py⟩:V2) (⟨(ao t.S M t.i).vx,(ao t.S M t.i).vy⟩:V2) (t.S.bods.getD (t.S.bo+((t.j).toNat)) dB).sh (⟨(ao t.S M t.j).px,(ao t.S M t.j).py⟩:V2) (⟨0,0⟩:V2) _ ((hS.shp ((t.i).toNat) (by omega)).up.up) ((hS.shp ((t.j).toNat) (by omega)).up.up)))<|ag [] [32] []<|aad<|ae 8 [.own 2] λ _=>aai (av 5 hM (ar 0))<|ae 3 [] λ _=>aam (mB (t.S.bods.getD (t.S.bo+((t.i).toNat)) dB).sh (⟨(ao t.S M t.i).px,(ao t.S M t.i).py⟩:V2) (⟨(ao t.S M t.i).vx,(ao t.S M t.i).vy⟩:V2) (t.S.bods.getD (t.S.bo+((t.j).toNat)) dB).sh (⟨(ao t.S M t.j).px,(ao t.S M t.j).py⟩:V2) (⟨0,0⟩:V2)<M.get 5) 73 (λ h5=>?_) λ h5=>?_
    ·refine ae 7 [.own 2] λ _=>aaj [] [0] (aj 5 (mB (t.S.bods.getD (t.S.bo+((t.i).toNat)) dB).sh (⟨(ao t.S M t.i).px,(ao t.S M t.i).py⟩:V2) (⟨(ao t.S M t.i).vx,(ao t.S M t.i).vy⟩:V2) (t.S.bods.getD (t.S.bo+((t.j).toNat)) dB).sh (⟨(ao t.S M t.j).px,(ao t.S M t.j).py⟩:V2) (⟨0,0⟩:V2)) hM) ?_;rintro _ T6 X6;refine ae 1 [] λ _=>aaq [] [2] [0] (v:=.tuple #[]) (H':=(ap [(sBk tb mb t)] [T6])) ?_;refine⟨T6,rfl,?_⟩;have e:eL t M=(M.set 5 (mB (t.S.bods.getD (t.S.bo+((t.i).toNat)) dB).sh (⟨(ao t.S M t.i).px,(ao t.S M t.i).py⟩:V2) (⟨(ao t.S M t.i).vx,(ao t.S M t.i).vy⟩:V2) (t.S.bods.getD (t.S.bo+((t.j).toNat)) dB).sh (⟨(ao t.S M t.j).px,(ao t.S M t.j).py⟩:V2) (⟨0,0⟩:V2))):=by
      unfold eL;rw[if_neg (show ¬ (t.i=t.j) from h1),if_pos (show movP t.S t.i from h2),if_pos (show sG t M<M.get 5 from h5)]
      first|done|rfl
     rw[e];exact X6.weak (by omega)
    ·refine ae 2 [] λ _=>aaq [] [2] [0] (v:=.tuple #[]) (H':=(ap [(sBk tb mb t)] [T])) ?_;refine⟨T,rfl,?_⟩;have e:eL t M=M:=by
      unfold eL;rw[if_neg (show ¬ (t.i=t.j) from h1),if_pos (show movP t.S t.i from h2),if_neg (show ¬ (sG t M<M.get 5) from h5)]
      first|done|rfl
     rw[e];exact hM.weak (by omega)
   ·intro Wt;refine fG 12 13 ?_ ?_
    ·refine aag [] [] λ n9=>aae 13 (aag [] [] λ TG=>?_);refine aae 14 (aag [] (ow 1 5) λ _=>?_);refine aae 15 (aag [] (ow 0 5) λ _=>?_);exact Wt ⟨n9,TG⟩ [0,1,2] [0]
    ·refine aag [] [] λ n11=>aae 12 (aag [] [] λ n12=>?_);refine aae 14 (aag [] (ow 0 5) λ _=>?_);refine aae 15 (aag [] (ow 1 5) λ _=>?_);exact Wt ⟨n12,n11⟩ [1,0,2] [0]
  ·refine ae 1 [] λ _=>aaq [] [0] [0] (v:=.tuple #[]) (H':=(ap [(sBk tb mb t)] [T])) ?_;refine⟨T,rfl,?_⟩;have e:eL t M=M:=by
    unfold eL;rw[if_neg (show ¬ (t.i=t.j) from h1),if_neg (show ¬ (movP t.S t.i) from h2)]
    first|done|rfl
   rw[e];exact hM.weak (by omega)
theorem DM(t:Stp)  (tb mb:Nat) (M:MemS) (k:Nat) (T F:HL) (hM:MemH mb M (k+8) T) (hS:SetIn F t.S) :Sp Tryz.prog 136 #[vP tb 0] (ap [(sBk tb mb t)] [T]) F (λ u H'=>∃x,H'=ap [(sBk tb mb t)] [x] /\ (MemH mb (dQ t M) k x)):=by
 have hp:=hS.pl;have hn:=hS.nb;have hr:=hS.room;refine aau Tryz.func136 rfl (mc hS.blk mn) (A:=[(sBk tb mb t)]) (Ts:=[T]) rfl λ w0=>?_;refine ae 8 [.own 0] λ _=>aai (qn t t.j tb mb _ (aw 0))<|ae 2 [] λ _=>aam (0 <= t.j /\ t.j<t.S.nb) 7 (λ h1=>?_) λ h1=>?_
 ·refine ae 4 [] λ _=>aaj [0] [0] (DL t tb mb M (k+7) T _ hM hS.up (by assumption)) ?_;rintro _ T2 TT;refine ae 3 [] λ _=>aal [11] []<|ag [] [0,4,1,5,2,6,3,7,8,9,10] (aab 2)<|aae 11 (aaf [] [] [0] (aj 3 (i64.wrap (t.j+1)) TT) ?_);rintro _ T4 UG;refine aad<|ae 1 [] λ _=>aaq [] [0] [0] (v:=.tuple #[]) (H':=(ap [(sBk tb mb t)] [T4])) ?_;refine⟨T4,rfl,?_⟩;have e:(dQ t M)=((eL t M).set 3 (i64.wrap (t.j+1))):=by
   first|(simp only[dQ,fD,if_pos h1];try rfl;done)|rfl
  rw[e];exact UG.weak (by omega)
 ·refine ae 11 [.own 0] λ _=>aai (ju t t.i tb mb _ (aw 0) hS.up)<|ae 2 [] λ _=>aam (movP t.S t.i) 27 (λ h6=>?_) λ h6=>?_
  ·have:=movP.has h6;refine ae 3 [] λ _=>aaj [0] [0] (zR t tb mb M (k+4) T _ hM hS.up (by assumption)) ?_;rintro _ T7 Ug;refine ae 4 [] λ _=>aal [] []<|ag [] [0,5,1,6,2,7,3,8,4,9,10,11] (aab 2)<|aad<|ae 1 [] λ _=>aam (i64.wrap (t.i+1)<(t.S.nb:Int)) 41 (λ h9=>?_) λ h9=>?_
   ·refine ae 2 [] λ _=>aal [11] []<|ag [] [0,4,1,5,2,6,3,7,8,9,10] (aab 2)<|aae 11 (aaf [] [] [0] (aj 2 (i64.wrap (t.i+1)) Ug) ?_);rintro _ Ui SN;refine aad<|ae 7 [.own 0] λ _=>aaj [] [0] (aj 3 0 SN) ?_;rintro _ Yo Xg;refine ae 8 [.own 0] λ _=>aaj [] [0] (aj 5 1024 Xg) ?_;rintro _ T14 Vx;refine ae 2 [] λ _=>aaq [] [0] [0] (v:=.tuple #[]) (H':=(ap [(sBk tb mb t)] [T14])) ?_;refine⟨T14,rfl,?_⟩;have e:(dQ t M)=((((cU t M).set 2 (i64.wrap (t.i+1))).set 3 0).set 5 1024):=by
     first|(simp only[dQ,fD,if_neg h1,if_pos h6,if_pos h9];try rfl;done)|rfl
    rw[e];exact Vx.weak (by omega)
   ·refine ae 6 [] λ _=>aaj [0] [0] (bP t 6 0 tb mb (cU t M) (k+1) T7 _ Ug hS.up ) ?_;rintro _ Wl Vw;refine ae 7 [.own 0] λ _=>aaj [] [0] (aj 5 0 Vw) ?_;rintro _ T18 Xf;refine ae 1 [] λ _=>aaq [] [0] [0] (v:=.tuple #[]) (H':=(ap [(sBk tb mb t)] [T18])) ?_;refine⟨T18,rfl,?_⟩;have e:(dQ t M)=((aM t 6 0 (cU t M)).set 5 0):=by
     first|(simp only[dQ,fD,if_neg h1,if_pos h6,if_neg h9];try rfl;done)|rfl
    rw[e];exact Xf.weak (by omega)
  ·refine ae 5 [] λ _=>aal [] []<|ag [] [0,5,1,6,2,7,3,8,4,9,10,11] (aab 2)<|aad<|ae 1 [] λ _=>aam (i64.wrap (t.i+1)<(t.S.nb:Int)) 41 (λ h20=>?_) λ h20=>?_
   ·refine ae 2 [] λ _=>aal [11] []<|ag [] [0,4,1,5,2,6,3,7,8,9,10] (aab 2)<|aae 11 (aaf [] [] [0] (aj 2 (i64.wrap (t.i+1)) hM) ?_);rintro _ T21 Ya;refine aad<|ae 7 [.own 0] λ _=>aaj [] [0] (aj 3 0 Ya) ?_;rintro _ Y2 Z9;refine ae 8 [.own 0] λ _=>aaj [] [0] (aj 5 1024 Z9) ?_;rintro _ Y0 X9;refine ae 2 [] λ _=>aaq [] [0] [0] (v:=.tuple #[]) (H':=(ap [(sBk tb mb t)] [Y0])) ?_;refine⟨Y0,rfl,?_⟩;have e:(dQ t M)=(((M.set 2 (i64.wrap (t.i+1))).set 3 0).set 5 1024):=by
     first|(simp only[dQ,fD,if_neg h1,if_neg h6,if_pos h20];try rfl;done)|rfl
    rw[e];exact X9.weak (by omega)
   ·refine ae 6 [] λ _=>aaj [0] [0] (bP t 6 0 tb mb M (k+5) T _ hM hS.up ) ?_;rintro _ VM TU;refine ae 7 [.own 0] λ _=>aaj [] [0] (aj 5 0 TU) ?_;rintro _ XF TQ;refine ae 1 [] λ _=>aaq [] [0] [0] (v:=.tuple #[]) (H':=(ap [(sBk tb mb t)] [XF])) ?_;refine⟨XF,rfl,?_⟩;have e:(dQ t M)=((aM t 6 0 M).set 5 0):=by
     first|(simp only[dQ,fD,if_neg h1,if_neg h6,if_neg h20];try rfl;done)|rfl
    rw[e];exact TQ.weak (by omega)
theorem Gy(i j n r:Int)(q1 q2:Nat)(F:HL)(h1q:(q1,.lit [vI n] 3 (0,0))∈F)(h2q:(q2,.lit [vI r] 3 (0,0))∈F):Sp Tryz.prog 169 #[vI i,vI j,vP q1 0,vP q2 0] [] F (λ u H'=>u=.tuple #[vI ((dz i j n r).1),vI ((dz i j n r).2.1),vI ((dz i j n r).2.2)] /\ H'=[]):=by
 refine aau Tryz.func169 rfl (mc h1q (mc h2q mn)) (A:=[]) (Ts:=[]) rfl λ w0=>?_;refine ae 18 [.ro 0] λ _=>aam (i64.wrap (j+1)<n) 9 (λ h1=>?_) λ h1=>?_
 ·refine ae 12 [.ro 1] λ _=>aaq [] [] [] (v:=.tuple #[vI r,vI i,vI (i64.wrap (j+1))]) (H':=[]) ?_;refine⟨?_,rfl⟩;simp only[dz,if_pos h1]
 ·refine ae 10 [.ro 0] λ _=>aam (i64.wrap (i+2)<n) 18 (λ h2=>?_) λ h2=>?_
  ·refine ae 13 [.ro 1] λ _=>aaq [] [] [] (v:=.tuple #[vI r,vI (i64.wrap (i+1)),vI (i64.wrap (i+2))]) (H':=[]) ?_;refine⟨?_,rfl⟩;simp only[dz,if_neg h1,if_pos h2]
  ·refine ae 13 [.ro 1] λ _=>aaq [] [] [] (v:=.tuple #[vI (i64.wrap (r+1)),vI 0,vI 1]) (H':=[]) ?_;refine⟨?_,rfl⟩;simp only[dz,if_neg h1,if_neg h2]
theorem vc(t:Stp)  (tb mb:Nat) (M:MemS) (k:Nat) (T F:HL) (hM:MemH mb M (k+14) T) (hS:SetIn F t.S) :Sp Tryz.prog 135 #[vP tb 0] (ap [(sBk tb mb t)] [T]) F (λ u H'=>∃x,H'=ap [(sBk tb mb t)] [x] /\ (MemH mb (bF t M) k x)):=by
 have hp:=hS.pl;have hn:=hS.nb;have hr:=hS.room;refine aau Tryz.func135 rfl (mc hS.blk mn) (A:=[(sBk tb mb t)]) (Ts:=[T]) rfl λ w0=>?_;refine ae 1 [] λ _=>aal [13,14] []<|ag [] [0,6,1,7,2,8,3,9,4,5] (aab 2)<|aac [] 10 (λ X_=>(av 4 hM (aO 0)))<|jT (σ:=Nat × Nat) (λ ⟨n1,n2⟩=>⟨[(0,vP tb 0),(2,vP (n1+0) 0),(3,vP (n2+0) 0)],[((n2+0),.lit [vI (M.get 4)] 3 (0,0)),((n1+0),.lit [vI (t.S.nb:Int)] 3 (0,0)),(sBk tb mb t)],[T],True,0⟩) ?_ ?_
 ·rintro⟨n1,n2⟩;refine ae 3 [] λ _=>aal [] []<|ag [] [0,1,2] [.own 1]<|RD.em ((t.S.nb:Int)<2) 20 (λ h3=>?_) λ h3=>?_
  ·refine ag [] [3,4,5,6,7,8,9,10] []<|aad<|ae 5 [] λ _=>aaj [2] [0] (bP t 5 0 tb mb M (k+11) T _ hM hS.up ) ?_;rintro _ T4 UG;refine ae 8 [.own 0] λ _=>aaj [] [0] (aj 5 1024 UG) ?_;rintro _ T6 X6;refine ae 2 [] λ _=>aaq [] [0] [0] (v:=.tuple #[]) (H':=(ap [(sBk tb mb t)] [T6])) ?_;refine⟨T6,rfl,?_⟩;have e:(bF t M)=((aM t 5 0 M).set 5 1024):=by
    first|(simp only[bF,if_pos h3];try rfl;done)|rfl
   rw[e];exact X6.weak (by omega)
  ·refine ag [] [3,4,5,6,7,8,9,10] [.own 0,.own 2]<|aad<|ae 1 [] λ _=>aam (M.get 4 >= t.S.rounds) 28 (λ h8=>?_) λ h8=>?_
   ·refine ae 4 [] λ _=>aaj [2] [0] (bP t 5 0 tb mb M (k+11) T _ hM hS.up ) ?_;rintro _ T9 Tt;refine ae 8 [.own 0] λ _=>aaj [] [0] (aj 5 1024 Tt) ?_;rintro _ OF No;refine ae 2 [] λ _=>aaq [] [0] [0] (v:=.tuple #[]) (H':=(ap [(sBk tb mb t)] [OF])) ?_;refine⟨OF,rfl,?_⟩;have e:(bF t M)=((aM t 5 0 M).set 5 1024):=by
     first|(simp only[bF,if_neg h3,if_pos h8];try rfl;done)|rfl
    rw[e];exact No.weak (by omega)
   ·refine ae 6 [] λ _=>aaj [2] [0] (zZ t tb mb M (k+4) T _ hM hS.up ) ?_;rintro _ TF TX;refine ae 9 [] λ _=>aal [14] [0,2]<|ag [0,2] [0,1,5,2,6,3,7,4,8] (aab 2)<|aac [0,2] 9 (λ X_=>(Gy t.i t.j (t.S.nb:Int) (M.get 4) (n1+0) (n2+0) _ (fd 2) (fd 1)))<|ag [0,2] [10,11,12,13] []<|aae 14 (aag [0,2] [.own 1] λ _=>?_);refine ag [0,2] [15,16] []<|aad<|ae 2 [] λ _=>aal [5] []<|ag [] [0,4,1,2,3] [.own 1,.own 0]<|aae 5 (aaf [] [] [0] (aj 4 ((dz t.i t.j (t.S.nb:Int) (M.get 4)).1) TX) ?_);rintro _ SP TW;refine aad<|ae 8 [.own 0] λ _=>aaj [] [0] (aj 2 ((dz t.i t.j (t.S.nb:Int) (M.get 4)).2.1) TW) ?_;rintro _ TA Ux;refine ae 8 [.own 0] λ _=>aaj [] [0] (aj 3 ((dz t.i t.j (t.S.nb:Int) (M.get 4)).2.2) Ux) ?_;rintro _ VB Xe;refine ae 1 [] λ _=>aaq [] [0] [0] (v:=.tuple #[]) (H':=(ap [(sBk tb mb t)] [VB])) ?_;refine⟨VB,rfl,?_⟩;have e:(bF t M)=((((dK t M).set 4 ((dz t.i t.j (t.S.nb:Int) (M.get 4)).1)).set 2 ((dz t.i t.j (t.S.nb:Int) (M.get 4)).2.1)).set 3 ((dz t.i t.j (t.S.nb:Int) (M.get 4)).2.2)):=by
     first|(simp only[bF,if_neg h3,if_neg h8];try rfl;done)|rfl
    rw[e];exact Xe.weak (by omega)
 ·intro Ys;refine fG 11 12 ?_ ?_
  ·refine aag [] [] λ n22=>aae 12 (aag [] [] λ n23=>?_);refine aae 13 (aag [] [.own 1] λ _=>?_);refine aae 14 (aag [] [.own 0] λ _=>?_);exact Ys ⟨n22,n23⟩ [0,1,2] [0]
  ·refine aag [] [] λ n24=>aae 11 (aag [] [] λ n25=>?_);refine aae 13 (aag [] [.own 0] λ _=>?_);refine aae 14 (aag [] [.own 1] λ _=>?_);exact Ys ⟨n25,n24⟩ [1,0,2] [0]
theorem Gz(t:Stp)  (tb mb:Nat) (M:MemS) (k:Nat) (T F:HL) (hM:MemH mb M (k+14) T) (hS:SetIn F t.S) :Sp Tryz.prog 138 #[vP tb 0] (ap [(sBk tb mb t)] [T]) F (λ u H'=>∃x,H'=ap [(tb,.lit [.iface 113 (vP mb 0),vI t.S.players,vS t.S.bb (t.S.bo*9) t.S.nb t.S.bc,vI t.S.box.x0,vI t.S.box.y0,vI t.S.box.x1,vI t.S.box.y1,.slice t.S.rA t.S.rn t.S.rc,.slice t.S.dA t.S.dn t.S.dc,vI t.S.fog,vI t.S.g.x,vI t.S.g.y,vI t.S.push,vI t.S.drag,vI t.S.rest,vI t.S.rounds,vI t.S.fuel,.slice t.cA t.cn t.cc,vI t.e0,vI t.e1,vI t.e2,vI t.version,vS t.ib (t.io*3) t.ni t.ic,vI t.i,vI t.j,.bool (fN t),vI t.f0,vI t.f1,vI t.f2,vI t.f3,.bool t.emitted] 238 (0,0))] [x] /\ (MemH mb (du t M) k x)):=by
 have hp:=hS.pl;have hn:=hS.nb;have hr:=hS.room;refine aau Tryz.func138 rfl (mc hS.blk mn) (A:=[(sBk tb mb t)]) (Ts:=[T]) rfl λ w0=>?_;refine ae 2 [] λ _=>aal [] []<|ag [] [0,4,1,5,2,6,3,7] (ow 0 17)<|aac [] 8 (λ X_=>(cQ t.S t.i _ hS.toSetN)) ?_;have V0:=cP hS.toSetN t.i;refine ag [] [9] []<|aad<|ae 7 [] λ _=>aam (af t.S t.i >= 0) 15 (λ h2=>?_) λ h2=>?_
 ·refine ai 15 [.own 0,.nw] [bn ((af t.S t.i)+2)] λ _=>aai (av ((af t.S t.i)+2) hM (ar 0))<|ae 2 [] λ _=>aam (M.get ((af t.S t.i)+2)=0) 24 (λ h3=>?_) λ h3=>?_
  ·refine ai 6 [.own 0,.nw] [bn ((af t.S t.i)+3)] λ _=>aai (av ((af t.S t.i)+3) hM (ar 0))<|ae 4 [] λ _=>aam (M.get ((af t.S t.i)+3)=0) 33 (λ h4=>?_) λ h4=>?_
   ·refine ai 8 [.own 0,.nw] [bn ((af t.S t.i)+7)] λ _=>aai (av ((af t.S t.i)+7) hM (ar 0))<|ai 13 [.own 0,.nw] [bn ((af t.S t.i)+7)] λ _=>aaj [] [0] (aj ((af t.S t.i)+7) (if 1000<i64.wrap ((M.get ((af t.S t.i)+7))+1) then 1000 else i64.wrap ((M.get ((af t.S t.i)+7))+1)) hM) ?_;rintro _ T5 SM;refine ae 4 [] λ _=>aal [] []<|ag [] [0,5,1,6,2,7,3,8,4,9,10,11] (aab 2)<|aad<|ae 1 [] λ _=>aam (i64.wrap (t.i+1)<(t.S.nb:Int)) 62 (λ h7=>?_) λ h7=>?_
    ·refine ae 2 [] λ _=>aal [11] []<|ag [] [0,4,1,5,2,6,3,7,8,9,10] (aab 2)<|aae 11 (aaf [] [] [0] (aj 2 (i64.wrap (t.i+1)) SM) ?_);rintro _ T8 V1;refine aad<|ae 1 [] λ _=>aaq [] [0] [0] (v:=.tuple #[]) (H':=(ap [(sBk tb mb t)] [T8])) ?_;refine⟨T8,by simp only[fN,Stp.l,if_pos h2,if_pos h3,if_pos h4,if_pos h7],?_⟩;have e:(du t M)=((M.set ((af t.S t.i)+7) (if 1000<i64.wrap ((M.get ((af t.S t.i)+7))+1) then 1000 else i64.wrap ((M.get ((af t.S t.i)+7))+1))).set 2 (i64.wrap (t.i+1))):=by
      simp only[du,fO,gm,if_pos h2,if_pos h3,if_pos h4,if_pos h7]
     rw[e];exact V1.weak (by omega)
    ·refine ae 12 [.own 0] λ _=>aal [12] []<|ag [] [0,4,1,5,2,6,3,7,10,11] (aab 2)<|aac [] 8 (λ X_=>(av 0 SM (aO 0)))<|ag [] [9] []<|aae 12 (aaf [] [] [0] (aj 0 (i64.wrap (((M.set ((af t.S t.i)+7) (if 1000<i64.wrap ((M.get ((af t.S t.i)+7))+1) then 1000 else i64.wrap ((M.get ((af t.S t.i)+7))+1))).get 0)+1)) SM) ?_);rintro _ Ui SN;refine aad<|ae 7 [] λ _=>aao (σ:=Nat × HL) (λ ⟨n,T_⟩=>⟨[(0,vP tb 0),(4,vI ((n+1:Nat):Int))],[(tSk tb mb t)],[T_],n <= 10 /\ MemH mb (cr ((M.set ((af t.S t.i)+7) (if 1000<i64.wrap ((M.get ((af t.S t.i)+7))+1) then 1000 else i64.wrap ((M.get ((af t.S t.i)+7))+1))).set 0 (i64.wrap (((M.set ((af t.S t.i)+7) (if 1000<i64.wrap ((M.get ((af t.S t.i)+7))+1) then 1000 else i64.wrap ((M.get ((af t.S t.i)+7))+1))).get 0)+1))) n) (k+10-n) T_,10-n⟩) (0,Ui) [0] [0] (⟨by omega,SN.weak (by omega)⟩) ?_;rintro⟨n,T_⟩ ⟨hn_,UZ⟩ Wq;refine ae 7 [] λ _=>aam (((n+1:Nat):Int) <= 10) 92 (λ UI=>?_) λ UI=>?_
     ·obtain⟨e_,TN⟩:∃e,k+10-n=e+1:=⟨k+9-n,by omega⟩;have Vv:MemH mb (cr ((M.set ((af t.S t.i)+7) (if 1000<i64.wrap ((M.get ((af t.S t.i)+7))+1) then 1000 else i64.wrap ((M.get ((af t.S t.i)+7))+1))).set 0 (i64.wrap (((M.set ((af t.S t.i)+7) (if 1000<i64.wrap ((M.get ((af t.S t.i)+7))+1) then 1000 else i64.wrap ((M.get ((af t.S t.i)+7))+1))).get 0)+1))) n) (e_+1) T_:=TN ▸ UZ;refine ae 11 [.own 0] λ _=>aaj [] [0] (aj ((n+1:Nat):Int) 0 Vv) ?_;rintro _ SP TW;refine ai 8 [.nw] [bn (((n+1:Nat):Int)+1)] λ _=>?_;refine Wq (n+1,SP) [0] [0] ?_
      try dsimp only
      refine⟨⟨by omega,TW.cast (by rw[cr]) (by omega)⟩,by omega⟩
     ·refine ae 5 [] λ _=>aaq [] [0] [0] (v:=.tuple #[]) (H':=(ap [(tSk tb mb t)] [T_])) ?_;refine⟨T_,by simp only[fN,Stp.l,if_pos h2,if_pos h3,if_pos h4,if_neg h7,if_neg UI],?_⟩;have en:n=10:=by omega
      have e:(du t M)=(cr ((M.set ((af t.S t.i)+7) (if 1000<i64.wrap ((M.get ((af t.S t.i)+7))+1) then 1000 else i64.wrap ((M.get ((af t.S t.i)+7))+1))).set 0 (i64.wrap (((M.set ((af t.S t.i)+7) (if 1000<i64.wrap ((M.get ((af t.S t.i)+7))+1) then 1000 else i64.wrap ((M.get ((af t.S t.i)+7))+1))).get 0)+1))) n):=by
       rw[en];simp only[du,fO,gm,if_pos h2,if_pos h3,if_pos h4,if_neg h7,if_neg UI]
      rw[e];exact UZ.weak (by omega)
   ·refine ai 11 [.own 0,.nw] [bn ((af t.S t.i)+7)] λ _=>aaj [] [0] (aj ((af t.S t.i)+7) 0 hM) ?_;rintro _ TA Ux;refine ae 4 [] λ _=>aal [] []<|ag [] [0,5,1,6,2,7,3,8,4,9,10,11] (aab 2)<|aad<|ae 1 [] λ _=>aam (i64.wrap (t.i+1)<(t.S.nb:Int)) 62 (λ h19=>?_) λ h19=>?_
    ·refine ae 2 [] λ _=>aal [11] []<|ag [] [0,4,1,5,2,6,3,7,8,9,10] (aab 2)<|aae 11 (aaf [] [] [0] (aj 2 (i64.wrap (t.i+1)) Ux) ?_);rintro _ VA Xd;refine aad<|ae 1 [] λ _=>aaq [] [0] [0] (v:=.tuple #[]) (H':=(ap [(sBk tb mb t)] [VA])) ?_;refine⟨VA,by simp only[fN,Stp.l,if_pos h2,if_pos h3,if_neg h4,if_pos h19],?_⟩;have e:(du t M)=((M.set ((af t.S t.i)+7) 0).set 2 (i64.wrap (t.i+1))):=by
      simp only[du,fO,gm,if_pos h2,if_pos h3,if_neg h4,if_pos h19]
     rw[e];exact Xd.weak (by omega)
    ·refine ae 12 [.own 0] λ _=>aal [12] []<|ag [] [0,4,1,5,2,6,3,7,10,11] (aab 2)<|aac [] 8 (λ X_=>(av 0 Ux (aO 0)))<|ag [] [9] []<|aae 12 (aaf [] [] [0] (aj 0 (i64.wrap (((M.set ((af t.S t.i)+7) 0).get 0)+1)) Ux) ?_);rintro _ Y6 Xc;refine aad<|ae 7 [] λ _=>aao (σ:=Nat × HL) (λ ⟨n,T_⟩=>⟨[(0,vP tb 0),(4,vI ((n+1:Nat):Int))],[(tSk tb mb t)],[T_],n <= 10 /\ MemH mb (cr ((M.set ((af t.S t.i)+7) 0).set 0 (i64.wrap (((M.set ((af t.S t.i)+7) 0).get 0)+1))) n) (k+10-n) T_,10-n⟩) (0,Y6) [0] [0] (⟨by omega,Xc.weak (by omega)⟩) ?_;rintro⟨n,T_⟩ ⟨hn_,UZ⟩ aeA;refine ae 7 [] λ _=>aam (((n+1:Nat):Int) <= 10) 92 (λ S8=>?_) λ S8=>?_
     ·obtain⟨e_,TN⟩:∃e,k+10-n=e+1:=⟨k+9-n,by omega⟩;have Vv:MemH mb (cr ((M.set ((af t.S t.i)+7) 0).set 0 (i64.wrap (((M.set ((af t.S t.i)+7) 0).get 0)+1))) n) (e_+1) T_:=TN ▸ UZ;refine ae 11 [.own 0] λ _=>aaj [] [0] (aj ((n+1:Nat):Int) 0 Vv) ?_;rintro _ VM TU;refine ai 8 [.nw] [bn (((n+1:Nat):Int)+1)] λ _=>?_;refine aeA (n+1,VM) [0] [0] ?_
      try dsimp only
      refine⟨⟨by omega,TU.cast (by rw[cr]) (by omega)⟩,by omega⟩
     ·refine ae 5 [] λ _=>aaq [] [0] [0] (v:=.tuple #[]) (H':=(ap [(tSk tb mb t)] [T_])) ?_;refine⟨T_,by simp only[fN,Stp.l,if_pos h2,if_pos h3,if_neg h4,if_neg h19,if_neg S8],?_⟩;have en:n=10:=by omega
      have e:(du t M)=(cr ((M.set ((af t.S t.i)+7) 0).set 0 (i64.wrap (((M.set ((af t.S t.i)+7) 0).get 0)+1))) n):=by
       rw[en];simp only[du,fO,gm,if_pos h2,if_pos h3,if_neg h4,if_neg h19,if_neg S8]
      rw[e];exact UZ.weak (by omega)
  ·refine ai 22 [.own 0,.nw] [bn ((af t.S t.i)+7)] λ _=>aaj [] [0] (aj ((af t.S t.i)+7) 0 hM) ?_;rintro _ XF TQ;refine ae 4 [] λ _=>aal [] []<|ag [] [0,5,1,6,2,7,3,8,4,9,10,11] (aab 2)<|aad<|ae 1 [] λ _=>aam (i64.wrap (t.i+1)<(t.S.nb:Int)) 62 (λ Vz=>?_) λ Vz=>?_
   ·refine ae 2 [] λ _=>aal [11] []<|ag [] [0,4,1,5,2,6,3,7,8,9,10] (aab 2)<|aae 11 (aaf [] [] [0] (aj 2 (i64.wrap (t.i+1)) TQ) ?_);rintro _ YZ V3;refine aad<|ae 1 [] λ _=>aaq [] [0] [0] (v:=.tuple #[]) (H':=(ap [(sBk tb mb t)] [YZ])) ?_;refine⟨YZ,by simp only[fN,Stp.l,if_pos h2,if_neg h3,if_pos Vz],?_⟩;have e:(du t M)=((M.set ((af t.S t.i)+7) 0).set 2 (i64.wrap (t.i+1))):=by
     simp only[du,fO,gm,if_pos h2,if_neg h3,if_pos Vz]
    rw[e];exact V3.weak (by omega)
   ·refine ae 12 [.own 0] λ _=>aal [12] []<|ag [] [0,4,1,5,2,6,3,7,10,11] (aab 2)<|aac [] 8 (λ X_=>(av 0 TQ (aO 0)))<|ag [] [9] []<|aae 12 (aaf [] [] [0] (aj 0 (i64.wrap (((M.set ((af t.S t.i)+7) 0).get 0)+1)) TQ) ?_);rintro _ YY X8;refine aad<|ae 7 [] λ _=>aao (σ:=Nat × HL) (λ ⟨n,T_⟩=>⟨[(0,vP tb 0),(4,vI ((n+1:Nat):Int))],[(tSk tb mb t)],[T_],n <= 10 /\ MemH mb (cr ((M.set ((af t.S t.i)+7) 0).set 0 (i64.wrap (((M.set ((af t.S t.i)+7) 0).get 0)+1))) n) (k+10-n) T_,10-n⟩) (0,YY) [0] [0] (⟨by omega,X8.weak (by omega)⟩) ?_;rintro⟨n,T_⟩ ⟨hn_,UZ⟩ aey;refine ae 7 [] λ _=>aam (((n+1:Nat):Int) <= 10) 92 (λ h38=>?_) λ h38=>?_
    ·obtain⟨e_,TN⟩:∃e,k+10-n=e+1:=⟨k+9-n,by omega⟩;have Vv:MemH mb (cr ((M.set ((af t.S t.i)+7) 0).set 0 (i64.wrap (((M.set ((af t.S t.i)+7) 0).get 0)+1))) n) (e_+1) T_:=TN ▸ UZ;refine ae 11 [.own 0] λ _=>aaj [] [0] (aj ((n+1:Nat):Int) 0 Vv) ?_;rintro _ Xs Uw;refine ai 8 [.nw] [bn (((n+1:Nat):Int)+1)] λ _=>?_;refine aey (n+1,Xs) [0] [0] ?_
     try dsimp only
     refine⟨⟨by omega,Uw.cast (by rw[cr]) (by omega)⟩,by omega⟩
    ·refine ae 5 [] λ _=>aaq [] [0] [0] (v:=.tuple #[]) (H':=(ap [(tSk tb mb t)] [T_])) ?_;refine⟨T_,by simp only[fN,Stp.l,if_pos h2,if_neg h3,if_neg Vz,if_neg h38],?_⟩;have en:n=10:=by omega
     have e:(du t M)=(cr ((M.set ((af t.S t.i)+7) 0).set 0 (i64.wrap (((M.set ((af t.S t.i)+7) 0).get 0)+1))) n):=by
      rw[en];simp only[du,fO,gm,if_pos h2,if_neg h3,if_neg Vz,if_neg h38]
     rw[e];exact UZ.weak (by omega)
 ·refine ae 5 [] λ _=>aal [] []<|ag [] [0,5,1,6,2,7,3,8,4,9,10,11] (aab 2)<|aad<|ae 1 [] λ _=>aam (i64.wrap (t.i+1)<(t.S.nb:Int)) 62 (λ S6=>?_) λ S6=>?_
  ·refine ae 2 [] λ _=>aal [11] []<|ag [] [0,4,1,5,2,6,3,7,8,9,10] (aab 2)<|aae 11 (aaf [] [] [0] (aj 2 (i64.wrap (t.i+1)) hM) ?_);rintro _ YX W9;refine aad<|ae 1 [] λ _=>aaq [] [0] [0] (v:=.tuple #[]) (H':=(ap [(sBk tb mb t)] [YX])) ?_;refine⟨YX,by simp only[fN,Stp.l,if_neg h2,if_pos S6],?_⟩;have e:(du t M)=(M.set 2 (i64.wrap (t.i+1))):=by
    simp only[du,fO,gm,if_neg h2,if_pos S6]
   rw[e];exact W9.weak (by omega)
  ·refine ae 12 [.own 0] λ _=>aal [12] []<|ag [] [0,4,1,5,2,6,3,7,10,11] (aab 2)<|aac [] 8 (λ X_=>(av 0 hM (aO 0)))<|ag [] [9] []<|aae 12 (aaf [] [] [0] (aj 0 (i64.wrap ((M.get 0)+1)) hM) ?_);rintro _ T44 W8;refine aad<|ae 7 [] λ _=>aao (σ:=Nat × HL) (λ ⟨n,T_⟩=>⟨[(0,vP tb 0),(4,vI ((n+1:Nat):Int))],[(tSk tb mb t)],[T_],n <= 10 /\ MemH mb (cr (M.set 0 (i64.wrap ((M.get 0)+1))) n) (k+10-n) T_,10-n⟩) (0,T44) [0] [0] (⟨by omega,W8.weak (by omega)⟩) ?_;rintro⟨n,T_⟩ ⟨hn_,UZ⟩ Zb;refine ae 7 [] λ _=>aam (((n+1:Nat):Int) <= 10) 92 (λ U9=>?_) λ U9=>?_
   ·obtain⟨e_,TN⟩:∃e,k+10-n=e+1:=⟨k+9-n,by omega⟩;have Vv:MemH mb (cr (M.set 0 (i64.wrap ((M.get 0)+1))) n) (e_+1) T_:=TN ▸ UZ;refine ae 11 [.own 0] λ _=>aaj [] [0] (aj ((n+1:Nat):Int) 0 Vv) ?_;rintro _ Yn Uv;refine ai 8 [.nw] [bn (((n+1:Nat):Int)+1)] λ _=>?_;refine Zb (n+1,Yn) [0] [0] ?_
    try dsimp only
    refine⟨⟨by omega,Uv.cast (by rw[cr]) (by omega)⟩,by omega⟩
   ·refine ae 5 [] λ _=>aaq [] [0] [0] (v:=.tuple #[]) (H':=(ap [(tSk tb mb t)] [T_])) ?_;refine⟨T_,by simp only[fN,Stp.l,if_neg h2,if_neg S6,if_neg U9],?_⟩;have en:n=10:=by omega
    have e:(du t M)=(cr (M.set 0 (i64.wrap ((M.get 0)+1))) n):=by
     rw[en];simp only[du,fO,gm,if_neg h2,if_neg S6,if_neg U9]
    rw[e];exact UZ.weak (by omega)
structure Gm where
 S:Setup
 cA:Option Addr
 cn:Nat
 cc:Nat
 e0:Int
 e1:Int
 e2:Int
 version:Int
 ib:Nat
 io:Nat
 ni:Nat
 ic:Nat
 iR:Nat
 ins:List Inp
 code:List Ins
abbrev Gm.step(g:Gm)(M:MemS):Stp:=⟨g.S,g.cA,g.cn,g.cc,g.e0,g.e1,g.e2,g.version,g.ib,g.io,g.ni,g.ic,g.iR,g.ins,M.get 2,M.get 3,false,0,0,0,0,false,g.code⟩
theorem NI(g:Gm)(mb:Nat)(M:MemS)(k:Nat)(T F:HL)(hM:MemH mb M (k+20) T)(hS:SetIn F g.S)(hp:M.get 1=0)(hI:(g.ib,.rows 3 g.iR (js g.ins) 40 (0,0))∈F)(hir:g.io+g.ni <= g.iR /\ g.ni <= 1000000):Sp Tryz.prog 107 #[.iface 113 (vP mb 0),.agg #[vI g.S.players,vS g.S.bb (g.S.bo*9) g.S.nb g.S.bc,vI g.S.box.x0,vI g.S.box.y0,vI g.S.box.x1,vI g.S.box.y1,.slice g.S.rA g.S.rn g.S.rc,.slice g.S.dA g.S.dn g.S.dc,vI g.S.fog,vI g.S.g.x,vI g.S.g.y,vI g.S.push,vI g.S.drag,vI g.S.rest,vI g.S.rounds,vI g.S.fuel],.agg #[.slice g.cA g.cn g.cc,vI g.e0,vI g.e1,vI g.e2],vI g.version,vS g.ib (g.io*3) g.ni g.ic] (ap [] [T]) F (λ u H'=>∃x,H'=ap [] [x] /\ (MemH mb (aR (g.step M) M) k x /\ u=.tuple #[.bool false,.agg #[vI 0,vI 0,vI 0,vI 0],.bool false])):=by
 refine aau Tryz.func107 rfl mn (A:=[]) (Ts:=[T]) rfl λ w0=>?_;refine ae 29 (ow 0 8) λ n1=>aai (jq 1 hp hM (ar 0))<|ae 18 [] λ _=>aal [] []<|ag [] [0,1,2,3,4,5,7] (ow 3 16++(ow 2 4))<|aac [] 6 (λ X_=>(av 2 hM (aO 0)))<|aac [] 8 (λ X_=>(av 3 hM (aO 0)))<|ag [] [9] []<|aae 10 (aag [] [] λ n2=>?_);refine ag [] [11] []<|aad<|ae 7 [.own 1] λ _=>aaj [0] [0] (DA (g.step M) (n2+0) mb M (k+12) T _ hM hS.up (aay _ hI) hir) ?_;rintro _ T3 Is;refine ae 3 [] λ _=>aal [13] [0,1,3,4]<|ag [0,1,3,4] [0,4,8,1,5,9,2,6,10,3,7,11,12] (ow 0 5++[.ro 0])<|aae 13 (aag [0,1,3,4] (ow 2 4) λ _=>?_);refine ag [0,1,3,4] [14] []<|aad<|ae 1 [] λ _=>aaq (ow 2 4) [] [0] (v:=.tuple #[.bool false,.agg #[vI 0,vI 0,vI 0,vI 0],.bool false]) (H':=(ap [] [T3])) ?_;exact⟨T3,rfl,Is.weak (by omega),rfl⟩
theorem NJ(g:Gm)(mb:Nat)(M:MemS)(k:Nat)(T F:HL)(hM:MemH mb M (k+20) T)(hS:SetIn F g.S)(hp:M.get 1=1)(hE:cM F)(hC:CodeIn F g.code g.cA g.cn):Sp Tryz.prog 107 #[.iface 113 (vP mb 0),.agg #[vI g.S.players,vS g.S.bb (g.S.bo*9) g.S.nb g.S.bc,vI g.S.box.x0,vI g.S.box.y0,vI g.S.box.x1,vI g.S.box.y1,.slice g.S.rA g.S.rn g.S.rc,.slice g.S.dA g.S.dn g.S.dc,vI g.S.fog,vI g.S.g.x,vI g.S.g.y,vI g.S.push,vI g.S.drag,vI g.S.rest,vI g.S.rounds,vI g.S.fuel],.agg #[.slice g.cA g.cn g.cc,vI g.e0,vI g.e1,vI g.e2],vI g.version,vS g.ib (g.io*3) g.ni g.ic] (ap [] [T]) F (λ u H'=>∃x,H'=ap [] [x] /\ (MemH mb (eX (g.step M) M).M k x /\ u=.tuple #[.bool false,.agg (aaa (eX (g.step M) M).e).toArray,.bool ((eX (g.step M) M).em)])):=by
 refine aau Tryz.func107 rfl mn (A:=[]) (Ts:=[T]) rfl λ w0=>?_;refine ae 29 (ow 0 8) λ n1=>aai (jq 1 hp hM (ar 0))<|ae 18 [] λ _=>aal [] []<|ag [] [0,1,2,3,4,5,7] (ow 3 16++(ow 2 4))<|aac [] 6 (λ X_=>(av 2 hM (aO 0)))<|aac [] 8 (λ X_=>(av 3 hM (aO 0)))<|ag [] [9] []<|aae 10 (aag [] [] λ n2=>?_);refine ag [] [11] []<|aad<|ae 7 [.own 1] λ _=>aaj [0] [0] (PZ (g.step M) (n2+0) mb M (k+11) T _ hM hS.up (au hE) hC.up) ?_;rintro _ T3 Is;refine ae 3 [] λ _=>aal [13] [0,1,3,4]<|ag [0,1,3,4] [0,4,8,1,5,9,2,6,10,3,7,11,12] (ow 0 5++[.ro 0])<|aae 13 (aag [0,1,3,4] (ow 2 4) λ _=>?_);refine ag [0,1,3,4] [14] []<|aad<|ae 1 [] λ _=>aaq (ow 2 4) [] [0] (v:=.tuple #[.bool false,.agg (aaa (eX (g.step M) M).e).toArray,.bool ((eX (g.step M) M).em)]) (H':=(ap [] [T3])) ?_;exact⟨T3,rfl,Is.weak (by omega),rfl⟩
theorem trans2(g:Gm)(mb:Nat)(M:MemS)(k:Nat)(T F:HL)(hM:MemH mb M (k+20) T)(hS:SetIn F g.S)(hp:M.get 1=2)(hE:cM F)(hC:CodeIn F g.code g.cA g.cn):Sp Tryz.prog 107 #[.iface 113 (vP mb 0),.agg #[vI g.S.players,vS g.S.bb (g.S.bo*9) g.S.nb g.S.bc,vI g.S.box.x0,vI g.S.box.y0,vI g.S.box.x1,vI g.S.box.y1,.slice g.S.rA g.S.rn g.S.rc,.slice g.S.dA g.S.dn g.S.dc,vI g.S.fog,vI g.S.g.x,vI g.S.g.y,vI g.S.push,vI g.S.drag,vI g.S.rest,vI g.S.rounds,vI g.S.fuel],.agg #[.slice g.cA g.cn g.cc,vI g.e0,vI g.e1,vI g.e2],vI g.version,vS g.ib (g.io*3) g.ni g.ic] (ap [] [T]) F (λ u H'=>∃x,H'=ap [] [x] /\ (MemH mb (cS (g.step M) M).M k x /\ u=.tuple #[.bool false,.agg (aaa (cS (g.step M) M).e).toArray,.bool ((cS (g.step M) M).em)])):=by
 refine aau Tryz.func107 rfl mn (A:=[]) (Ts:=[T]) rfl λ w0=>?_;refine ae 29 (ow 0 8) λ n1=>aai (jq 1 hp hM (ar 0))<|ae 18 [] λ _=>aal [] []<|ag [] [0,1,2,3,4,5,7] (ow 3 16++(ow 2 4))<|aac [] 6 (λ X_=>(av 2 hM (aO 0)))<|aac [] 8 (λ X_=>(av 3 hM (aO 0)))<|ag [] [9] []<|aae 10 (aag [] [] λ n2=>?_);refine ag [] [11] []<|aad<|ae 7 [.own 1] λ _=>aaj [0] [0] (NH (g.step M) (n2+0) mb M (k+11) T _ hM hS.up (au hE) hC.up) ?_;rintro _ T3 Is;refine ae 3 [] λ _=>aal [13] [0,1,3,4]<|ag [0,1,3,4] [0,4,8,1,5,9,2,6,10,3,7,11,12] (ow 0 5++[.ro 0])<|aae 13 (aag [0,1,3,4] (ow 2 4) λ _=>?_);refine ag [0,1,3,4] [14] []<|aad<|ae 1 [] λ _=>aaq (ow 2 4) [] [0] (v:=.tuple #[.bool false,.agg (aaa (cS (g.step M) M).e).toArray,.bool ((cS (g.step M) M).em)]) (H':=(ap [] [T3])) ?_;exact⟨T3,rfl,Is.weak (by omega),rfl⟩
theorem NK(g:Gm)(mb:Nat)(M:MemS)(k:Nat)(T F:HL)(hM:MemH mb M (k+20) T)(hS:SetIn F g.S)(hp:M.get 1=3) :Sp Tryz.prog 107 #[.iface 113 (vP mb 0),.agg #[vI g.S.players,vS g.S.bb (g.S.bo*9) g.S.nb g.S.bc,vI g.S.box.x0,vI g.S.box.y0,vI g.S.box.x1,vI g.S.box.y1,.slice g.S.rA g.S.rn g.S.rc,.slice g.S.dA g.S.dn g.S.dc,vI g.S.fog,vI g.S.g.x,vI g.S.g.y,vI g.S.push,vI g.S.drag,vI g.S.rest,vI g.S.rounds,vI g.S.fuel],.agg #[.slice g.cA g.cn g.cc,vI g.e0,vI g.e1,vI g.e2],vI g.version,vS g.ib (g.io*3) g.ni g.ic] (ap [] [T]) F (λ u H'=>∃x,H'=ap [] [x] /\ (MemH mb (aS (g.step M) M) k x /\ u=.tuple #[.bool false,.agg #[vI 0,vI 0,vI 0,vI 0],.bool false])):=by
 refine aau Tryz.func107 rfl mn (A:=[]) (Ts:=[T]) rfl λ w0=>?_;refine ae 29 (ow 0 8) λ n1=>aai (jq 1 hp hM (ar 0))<|ae 18 [] λ _=>aal [] []<|ag [] [0,1,2,3,4,5,7] (ow 3 16++(ow 2 4))<|aac [] 6 (λ X_=>(av 2 hM (aO 0)))<|aac [] 8 (λ X_=>(av 3 hM (aO 0)))<|ag [] [9] []<|aae 10 (aag [] [] λ n2=>?_);refine ag [] [11] []<|aad<|ae 7 [.own 1] λ _=>aaj [0] [0] (DB (g.step M) (n2+0) mb M (k+12) T _ hM hS.up ) ?_;rintro _ T3 Is;refine ae 3 [] λ _=>aal [13] [0,1,3,4]<|ag [0,1,3,4] [0,4,8,1,5,9,2,6,10,3,7,11,12] (ow 0 5++[.ro 0])<|aae 13 (aag [0,1,3,4] (ow 2 4) λ _=>?_);refine ag [0,1,3,4] [14] []<|aad<|ae 1 [] λ _=>aaq (ow 2 4) [] [0] (v:=.tuple #[.bool false,.agg #[vI 0,vI 0,vI 0,vI 0],.bool false]) (H':=(ap [] [T3])) ?_;exact⟨T3,rfl,Is.weak (by omega),rfl⟩
theorem NL(g:Gm)(mb:Nat)(M:MemS)(k:Nat)(T F:HL)(hM:MemH mb M (k+20) T)(hS:SetIn F g.S)(hp:M.get 1=4) :Sp Tryz.prog 107 #[.iface 113 (vP mb 0),.agg #[vI g.S.players,vS g.S.bb (g.S.bo*9) g.S.nb g.S.bc,vI g.S.box.x0,vI g.S.box.y0,vI g.S.box.x1,vI g.S.box.y1,.slice g.S.rA g.S.rn g.S.rc,.slice g.S.dA g.S.dn g.S.dc,vI g.S.fog,vI g.S.g.x,vI g.S.g.y,vI g.S.push,vI g.S.drag,vI g.S.rest,vI g.S.rounds,vI g.S.fuel],.agg #[.slice g.cA g.cn g.cc,vI g.e0,vI g.e1,vI g.e2],vI g.version,vS g.ib (g.io*3) g.ni g.ic] (ap [] [T]) F (λ u H'=>∃x,H'=ap [] [x] /\ (MemH mb (bF (g.step M) M) k x /\ u=.tuple #[.bool false,.agg #[vI 0,vI 0,vI 0,vI 0],.bool false])):=by
 refine aau Tryz.func107 rfl mn (A:=[]) (Ts:=[T]) rfl λ w0=>?_;refine ae 29 (ow 0 8) λ n1=>aai (jq 1 hp hM (ar 0))<|ae 18 [] λ _=>aal [] []<|ag [] [0,1,2,3,4,5,7] (ow 3 16++(ow 2 4))<|aac [] 6 (λ X_=>(av 2 hM (aO 0)))<|aac [] 8 (λ X_=>(av 3 hM (aO 0)))<|ag [] [9] []<|aae 10 (aag [] [] λ n2=>?_);refine ag [] [11] []<|aad<|ae 7 [.own 1] λ _=>aaj [0] [0] (vc (g.step M) (n2+0) mb M (k+6) T _ hM hS.up ) ?_;rintro _ T3 Is;refine ae 3 [] λ _=>aal [13] [0,1,3,4]<|ag [0,1,3,4] [0,4,8,1,5,9,2,6,10,3,7,11,12] (ow 0 5++[.ro 0])<|aae 13 (aag [0,1,3,4] (ow 2 4) λ _=>?_);refine ag [0,1,3,4] [14] []<|aad<|ae 1 [] λ _=>aaq (ow 2 4) [] [0] (v:=.tuple #[.bool false,.agg #[vI 0,vI 0,vI 0,vI 0],.bool false]) (H':=(ap [] [T3])) ?_;exact⟨T3,rfl,Is.weak (by omega),rfl⟩
theorem NM(g:Gm)(mb:Nat)(M:MemS)(k:Nat)(T F:HL)(hM:MemH mb M (k+20) T)(hS:SetIn F g.S)(hp:M.get 1=5) :Sp Tryz.prog 107 #[.iface 113 (vP mb 0),.agg #[vI g.S.players,vS g.S.bb (g.S.bo*9) g.S.nb g.S.bc,vI g.S.box.x0,vI g.S.box.y0,vI g.S.box.x1,vI g.S.box.y1,.slice g.S.rA g.S.rn g.S.rc,.slice g.S.dA g.S.dn g.S.dc,vI g.S.fog,vI g.S.g.x,vI g.S.g.y,vI g.S.push,vI g.S.drag,vI g.S.rest,vI g.S.rounds,vI g.S.fuel],.agg #[.slice g.cA g.cn g.cc,vI g.e0,vI g.e1,vI g.e2],vI g.version,vS g.ib (g.io*3) g.ni g.ic] (ap [] [T]) F (λ u H'=>∃x,H'=ap [] [x] /\ (MemH mb (dQ (g.step M) M) k x /\ u=.tuple #[.bool false,.agg #[vI 0,vI 0,vI 0,vI 0],.bool false])):=by
 refine aau Tryz.func107 rfl mn (A:=[]) (Ts:=[T]) rfl λ w0=>?_;refine ae 29 (ow 0 8) λ n1=>aai (jq 1 hp hM (ar 0))<|ae 18 [] λ _=>aal [] []<|ag [] [0,1,2,3,4,5,7] (ow 3 16++(ow 2 4))<|aac [] 6 (λ X_=>(av 2 hM (aO 0)))<|aac [] 8 (λ X_=>(av 3 hM (aO 0)))<|ag [] [9] []<|aae 10 (aag [] [] λ n2=>?_);refine ag [] [11] []<|aad<|ae 7 [.own 1] λ _=>aaj [0] [0] (DM (g.step M) (n2+0) mb M (k+12) T _ hM hS.up ) ?_;rintro _ T3 Is;refine ae 3 [] λ _=>aal [13] [0,1,3,4]<|ag [0,1,3,4] [0,4,8,1,5,9,2,6,10,3,7,11,12] (ow 0 5++[.ro 0])<|aae 13 (aag [0,1,3,4] (ow 2 4) λ _=>?_);refine ag [0,1,3,4] [14] []<|aad<|ae 1 [] λ _=>aaq (ow 2 4) [] [0] (v:=.tuple #[.bool false,.agg #[vI 0,vI 0,vI 0,vI 0],.bool false]) (H':=(ap [] [T3])) ?_;exact⟨T3,rfl,Is.weak (by omega),rfl⟩
theorem NN(g:Gm)(mb:Nat)(M:MemS)(k:Nat)(T F:HL)(hM:MemH mb M (k+20) T)(hS:SetIn F g.S)(hp:M.get 1=6)(hE:cM F)(hC:CodeIn F g.code g.cA g.cn):Sp Tryz.prog 107 #[.iface 113 (vP mb 0),.agg #[vI g.S.players,vS g.S.bb (g.S.bo*9) g.S.nb g.S.bc,vI g.S.box.x0,vI g.S.box.y0,vI g.S.box.x1,vI g.S.box.y1,.slice g.S.rA g.S.rn g.S.rc,.slice g.S.dA g.S.dn g.S.dc,vI g.S.fog,vI g.S.g.x,vI g.S.g.y,vI g.S.push,vI g.S.drag,vI g.S.rest,vI g.S.rounds,vI g.S.fuel],.agg #[.slice g.cA g.cn g.cc,vI g.e0,vI g.e1,vI g.e2],vI g.version,vS g.ib (g.io*3) g.ni g.ic] (ap [] [T]) F (λ u H'=>∃x,H'=ap [] [x] /\ (MemH mb (eY (g.step M) M).M k x /\ u=.tuple #[.bool false,.agg (aaa (eY (g.step M) M).e).toArray,.bool ((eY (g.step M) M).em)])):=by
 refine aau Tryz.func107 rfl mn (A:=[]) (Ts:=[T]) rfl λ w0=>?_;refine ae 29 (ow 0 8) λ n1=>aai (jq 1 hp hM (ar 0))<|ae 18 [] λ _=>aal [] []<|ag [] [0,1,2,3,4,5,7] (ow 3 16++(ow 2 4))<|aac [] 6 (λ X_=>(av 2 hM (aO 0)))<|aac [] 8 (λ X_=>(av 3 hM (aO 0)))<|ag [] [9] []<|aae 10 (aag [] [] λ n2=>?_);refine ag [] [11] []<|aad<|ae 7 [.own 1] λ _=>aaj [0] [0] (P0 (g.step M) (n2+0) mb M (k+11) T _ hM hS.up (au hE) hC.up) ?_;rintro _ T3 Is;refine ae 3 [] λ _=>aal [13] [0,1,3,4]<|ag [0,1,3,4] [0,4,8,1,5,9,2,6,10,3,7,11,12] (ow 0 5++[.ro 0])<|aae 13 (aag [0,1,3,4] (ow 2 4) λ _=>?_);refine ag [0,1,3,4] [14] []<|aad<|ae 1 [] λ _=>aaq (ow 2 4) [] [0] (v:=.tuple #[.bool false,.agg (aaa (eY (g.step M) M).e).toArray,.bool ((eY (g.step M) M).em)]) (H':=(ap [] [T3])) ?_;exact⟨T3,rfl,Is.weak (by omega),rfl⟩
theorem NO(g:Gm)(mb:Nat)(M:MemS)(k:Nat)(T F:HL)(hM:MemH mb M (k+20) T)(hS:SetIn F g.S)(hp:M.get 1=7) :Sp Tryz.prog 107 #[.iface 113 (vP mb 0),.agg #[vI g.S.players,vS g.S.bb (g.S.bo*9) g.S.nb g.S.bc,vI g.S.box.x0,vI g.S.box.y0,vI g.S.box.x1,vI g.S.box.y1,.slice g.S.rA g.S.rn g.S.rc,.slice g.S.dA g.S.dn g.S.dc,vI g.S.fog,vI g.S.g.x,vI g.S.g.y,vI g.S.push,vI g.S.drag,vI g.S.rest,vI g.S.rounds,vI g.S.fuel],.agg #[.slice g.cA g.cn g.cc,vI g.e0,vI g.e1,vI g.e2],vI g.version,vS g.ib (g.io*3) g.ni g.ic] (ap [] [T]) F (λ u H'=>∃x,H'=ap [] [x] /\ (MemH mb (du (g.step M) M) k x /\ u=.tuple #[.bool (fN (g.step M)),.agg #[vI 0,vI 0,vI 0,vI 0],.bool false])):=by
 refine aau Tryz.func107 rfl mn (A:=[]) (Ts:=[T]) rfl λ w0=>?_;refine ae 29 (ow 0 8) λ n1=>aai (jq 1 hp hM (ar 0))<|ae 18 [] λ _=>aal [] []<|ag [] [0,1,2,3,4,5,7] (ow 3 16++(ow 2 4))<|aac [] 6 (λ X_=>(av 2 hM (aO 0)))<|aac [] 8 (λ X_=>(av 3 hM (aO 0)))<|ag [] [9] []<|aae 10 (aag [] [] λ n2=>?_);refine ag [] [11] []<|aad<|ae 7 [.own 1] λ _=>aaj [0] [0] (Gz (g.step M) (n2+0) mb M (k+6) T _ hM hS.up ) ?_;rintro _ T3 Is;refine ae 3 [] λ _=>aal [13] [0,1,3,4]<|ag [0,1,3,4] [0,4,8,1,5,9,2,6,10,3,7,11,12] (ow 0 5++[.ro 0])<|aae 13 (aag [0,1,3,4] (ow 2 4) λ _=>?_);refine ag [0,1,3,4] [14] []<|aad<|ae 1 [] λ _=>aaq (ow 2 4) [] [0] (v:=.tuple #[.bool (fN (g.step M)),.agg #[vI 0,vI 0,vI 0,vI 0],.bool false]) (H':=(ap [] [T3])) ?_;exact⟨T3,rfl,Is.weak (by omega),rfl⟩
def sH:Enc Eff:=⟨4,λ p k=>match k with|0=>vI p.t|1=>vI p.i|2=>vI p.k|_=>vI p.v,bB⟩
noncomputable def ME:TypeInfo:=match Tryz.prog.info? 111 with | some i=>i | none=>⟨.bool,"",0,0,false,0,0,none,false,#[]⟩
noncomputable def MF:Value:=match ME.zero with|some z=>z|none=>.bool false
theorem NP:EncOk sH Tryz.prog 111 ME MF where
 info:=by kernel_rfl
 zero:=by kernel_rfl
 size:=by kernel_rfl
 zsize:=by kernel_rfl
 zcell:=λ k hk=>by
  have h:∀k<4,MF.cells[k]?=some (sH.cell sH.dflt k):=by intro k hk;(iterate 4 (rcases k with _|k;· kernel_rfl));omega
  exact h k hk
 one:=λ x k=>by unfold sH;dsimp only;split <;> rfl
 bytes:=aaJ (by kernel_rfl)
def eT(g:Gm)(M:MemS):VR:=if M.get 1=0 then ⟨aR (g.step M) M,0,bB,false⟩ else if M.get 1=1 then (eX (g.step M) M) else if M.get 1=2 then (cS (g.step M) M) else if M.get 1=3 then ⟨aS (g.step M) M,0,bB,false⟩ else if M.get 1=4 then ⟨bF (g.step M) M,0,bB,false⟩ else if M.get 1=5 then ⟨dQ (g.step M) M,0,bB,false⟩ else if M.get 1=6 then (eY (g.step M) M) else ⟨du (g.step M) M,0,bB,false⟩
def jh(g:Gm)(M:MemS):Bool:=if M.get 1=7 then fN (g.step M) else false
abbrev jK(g:Gm)(M:MemS):MemS:=(eT g M).M
abbrev GA(M:MemS):Prop:=0 <= M.get 1 /\ M.get 1 <= 7
structure GmIn(F:HL)(g:Gm):Prop where
 set:SetIn F g.S
 ins:(g.ib,.rows 3 g.iR (js g.ins) 40 (0,0))∈F
 room:g.io+g.ni <= g.iR /\ g.ni <= 1000000
 eff:cM F
 code:CodeIn F g.code g.cA g.cn
theorem DN(g:Gm)(mb:Nat)(M:MemS)(k:Nat)(T F:HL)(hM:MemH mb M (k+20) T)(hg:GmIn F g)(h0:GA M)(ver:Int)(Zl:g.version=ver):Sp Tryz.prog 107 #[.iface 113 (vP mb 0),.agg #[vI g.S.players,vS g.S.bb (g.S.bo*9) g.S.nb g.S.bc,vI g.S.box.x0,vI g.S.box.y0,vI g.S.box.x1,vI g.S.box.y1,.slice g.S.rA g.S.rn g.S.rc,.slice g.S.dA g.S.dn g.S.dc,vI g.S.fog,vI g.S.g.x,vI g.S.g.y,vI g.S.push,vI g.S.drag,vI g.S.rest,vI g.S.rounds,vI g.S.fuel],.agg #[.slice g.cA g.cn g.cc,vI g.e0,vI g.e1,vI g.e2],vI ver,vS g.ib (g.io*3) g.ni g.ic] (ap [] [T]) F (λ u H'=>∃x,H'=ap [] [x] /\ (MemH mb (jK g M) k x /\ u=.tuple #[.bool (jh g M),.agg (aaa (eT g M).e).toArray,.bool ((eT g M).em)])):=by
 subst Zl
 by_cases h0:M.get 1=0
 ·rw[jK,show eT g M=⟨aR (g.step M) M,0,bB,false⟩ by simp only[eT,if_pos h0],show jh g M=false by simp[jh,h0]];exact NI g mb M k T F hM hg.set h0 hg.ins hg.room
 by_cases h1:M.get 1=1
 ·rw[jK,show eT g M=(eX (g.step M) M) by simp only[eT,if_neg h0,if_pos h1],show jh g M=false by simp[jh,h1]];exact NJ g mb M k T F hM hg.set h1 hg.eff hg.code
 by_cases h2:M.get 1=2
 ·rw[jK,show eT g M=(cS (g.step M) M) by simp only[eT,if_neg h0,if_neg h1,if_pos h2],show jh g M=false by simp[jh,h2]];exact trans2 g mb M k T F hM hg.set h2 hg.eff hg.code
 by_cases h3:M.get 1=3
 ·rw[jK,show eT g M=⟨aS (g.step M) M,0,bB,false⟩ by simp only[eT,if_neg h0,if_neg h1,if_neg h2,if_pos h3],show jh g M=false by simp[jh,h3]];exact NK g mb M k T F hM hg.set h3
 by_cases h4:M.get 1=4
 ·rw[jK,show eT g M=⟨bF (g.step M) M,0,bB,false⟩ by simp only[eT,if_neg h0,if_neg h1,if_neg h2,if_neg h3,if_pos h4],show jh g M=false by simp[jh,h4]];exact NL g mb M k T F hM hg.set h4
 by_cases h5:M.get 1=5
 ·rw[jK,show eT g M=⟨dQ (g.step M) M,0,bB,false⟩ by simp only[eT,if_neg h0,if_neg h1,if_neg h2,if_neg h3,if_neg h4,if_pos h5],show jh g M=false by simp[jh,h5]];exact NM g mb M k T F hM hg.set h5
 by_cases h6:M.get 1=6
 ·rw[jK,show eT g M=(eY (g.step M) M) by simp only[eT,if_neg h0,if_neg h1,if_neg h2,if_neg h3,if_neg h4,if_neg h5,if_pos h6],show jh g M=false by simp[jh,h6]];exact NN g mb M k T F hM hg.set h6 hg.eff hg.code
 have h7:M.get 1=7:=by omega
 rw[jK,show eT g M=⟨du (g.step M) M,0,bB,false⟩ by simp only[eT,if_neg h0,if_neg h1,if_neg h2,if_neg h3,if_neg h4,if_neg h5,if_neg h6],show jh g M=fN (g.step M) by simp[jh,h7]];exact NO g mb M k T F hM hg.set h7
def fY(g:Gm):Nat -> MemS -> MemS
 | 0,M=>M
 | n+1,M=>fY g n (jK g M)
def d9(g:Gm):Nat -> MemS -> List Eff
 | 0,_=>[]
 | n+1,M=>(if (eT g M).em=true then [(eT g M).e] else [])++d9 g n (jK g M)
def dV(g:Gm):Nat -> MemS -> Prop
 | 0,_=>False
 | n+1,M=>GA M /\ ((n=0 /\ jh g M=true) \/ (jh g M=false /\ dV g n (jK g M)))
theorem tp{g:Gm}{n:Nat}{M:MemS}(h:(eT g M).em=true):d9 g (n+1) M=(eT g M).e::d9 g n (jK g M):=by rw[d9,if_pos h];rfl
theorem nW{g:Gm}{n:Nat}{M:MemS}(h:¬ (eT g M).em=true):d9 g (n+1) M=d9 g n (jK g M):=by rw[d9,if_neg h];rfl
def Shp.nm(s:Shp):Shp:=⟨s.r,s.poly,none,0⟩
def Bod.nm(b:Bod):Bod:=⟨b.sh.nm,b.mot,b.a,b.b⟩
def Setup.nm(S:Setup):Setup:={ S with bb:=0,bo:=0,bc:=0,bR:=0,bods:=(S.bods.drop S.bo).map Bod.nm,rA:=none,rc:=0,dA:=none,dc:=0 }
def Stp.nm(t:Stp):Stp:={ t with S:=t.S.nm,cA:=none,cc:=0,ib:=0,io:=0,ic:=0,iR:=0,ins:=[] }
theorem DP{α:Type}(l:List α)(o k:Nat)(d:α):(l.drop o).getD (0+k) d=l.getD (o+k) d:=by
 rw[Nat.zero_add,aaI,aaI,aa6]
theorem GB{α β:Type}(f:α -> β)(l:List α)(k:Nat)(d:α):(l.map f).getD k (f d)=f (l.getD k d):=by
 rw[aaI,aaI,List.getElem?_map];cases l[k]? <;> rfl
theorem qo(S:Setup)(k:Nat):S.nm.body k=(S.body k).nm:=by
 show ((S.bods.drop S.bo).map Bod.nm).getD (0+k) dB=Bod.nm (S.bods.getD (S.bo+k) dB);rw[<- DP S.bods S.bo k dB];exact GB Bod.nm _ _ dB
theorem kq(S:Setup):S.nm.players=S.players:=rfl
theorem iA(S:Setup):S.nm.nb=S.nb:=rfl
theorem GC(S:Setup):S.nm.box=S.box:=rfl
theorem NQ(S:Setup):S.nm.g=S.g:=rfl
theorem DQ(S:Setup):S.nm.push=S.push:=rfl
theorem DS(S:Setup):S.nm.drag=S.drag:=rfl
theorem tu(S:Setup):S.nm.rest=S.rest:=rfl
theorem xb(S:Setup):S.nm.rounds=S.rounds:=rfl
theorem tw(S:Setup):S.nm.fuel=S.fuel:=rfl
theorem BZ(t:Stp):t.nm.cn=t.cn:=rfl
theorem B0(t:Stp):t.nm.e0=t.e0:=rfl
theorem KQ(t:Stp):t.nm.e1=t.e1:=rfl
theorem B1(t:Stp):t.nm.e2=t.e2:=rfl
theorem vd(t:Stp):t.nm.version=t.version:=rfl
theorem dt(t:Stp):t.nm.i=t.i:=rfl
theorem g9(t:Stp):t.nm.j=t.j:=rfl
theorem z0(t:Stp):t.nm.ended=t.ended:=rfl
theorem qp(t:Stp):t.nm.f0=t.f0:=rfl
theorem qr(t:Stp):t.nm.f1=t.f1:=rfl
theorem qs(t:Stp):t.nm.f2=t.f2:=rfl
theorem qt(t:Stp):t.nm.f3=t.f3:=rfl
theorem iB(t:Stp):t.nm.emitted=t.emitted:=rfl
theorem oQ(t:Stp):t.nm.code=t.code:=rfl
theorem bE(t:Stp):t.nm.S=t.S.nm:=rfl
theorem B2(b:Bod):b.nm.sh=b.sh.nm:=rfl
theorem xc(b:Bod):b.nm.mot=b.mot:=rfl
theorem NR(s:Shp):s.nm.r=s.r:=rfl
theorem jy(S:Setup)(k:Int) :ah S.nm k=ah S k:=by
 unfold ah;simp only[kq,bE] <;> rfl
theorem fm(S:Setup)(k:Int) :af S.nm k=af S k:=by
 unfold af;simp only[kq,iA,bE] <;> rfl
theorem ve(S:Setup)(k:Int) :(movP S.nm k)=(movP S k):=by
 unfold movP;simp only[iA,bE,xc,qo] <;> rfl
theorem nX(S:Setup)(M:MemS)(k:Int) :ao S.nm M k=ao S M k:=by
 unfold ao;simp only[bE,xc,qo,fm] <;> rfl
theorem xd(a:Shp)(pa:V2)(b:Shp)(pb:V2) :cz a.nm pa b.nm pb=cz a pa b pb:=by
 kernel_rfl
theorem GD(a:Shp)(pa va:V2)(b:Shp)(pb vb:V2) :mB a.nm pa va b.nm pb vb=mB a pa va b pb vb:=by
 kernel_rfl
theorem z6(t:Stp)(k:Int)(m:Mot)(M:MemS) :dq t.nm k m M=dq t k m M:=by
 unfold dq;simp only[bE,fm] <;> rfl
theorem DT(t:Stp)(c sp pos lo hi:Int)(M:MemS) :dR t.nm c sp pos lo hi M=dR t c sp pos lo hi M:=by
 unfold dR;simp only[tu,bE] <;> rfl
theorem tz(t:Stp)(M:MemS) :bj t.nm M=bj t M:=by
 unfold bj;simp only[vd,dt,bE] <;> rfl
theorem tC(t:Stp)(M:MemS) :bL t.nm M=bL t M:=by
 unfold bL;simp only[kq,dt,bE] <;> rfl
theorem xe(t:Stp) :fN t.nm=fN t:=by
 unfold fN;simp only[iA,dt,z0,bE] <;> rfl
theorem GE(t:Stp)(M:MemS) :fO t.nm M=fO t M:=by
 unfold fO;simp only[dt,bE,fm] <;> rfl
theorem GG(t:Stp)(M:MemS) :gm t.nm M=gm t M:=by
 unfold gm;simp only[iA,dt,bE] <;> rfl
theorem xf(t:Stp)(M:MemS) :du t.nm M=du t M:=by
 unfold du;simp only[bE,GE,GG] <;> rfl
theorem DU(t:Stp)(M:MemS) :b6 t.nm M=b6 t M:=by
 unfold b6;simp only[NQ,DQ,DS,dt,bE,jy,nX] <;> rfl
theorem DV(t:Stp)(M:MemS) :bD t.nm M=bD t M:=by
 unfold bD;simp only[dt,bE,fm] <;> rfl
theorem DW(t:Stp)(M:MemS) :bH t.nm M=bH t M:=by
 unfold bH;simp only[dt,bE,fm,ve,DU] <;> rfl
theorem DX(t:Stp)(M:MemS) :bQ t.nm M=bQ t M:=by
 unfold bQ;simp only[iA,dt,bE] <;> rfl
theorem tD(t:Stp)(M:MemS) :aS t.nm M=aS t M:=by
 unfold aS;simp only[bE,DV,DW,DX] <;> rfl
theorem z7(t:Stp)(M:MemS) :gF t.nm M=gF t M:=by
 unfold gF;simp only[dt,bE,nX] <;> rfl
theorem z8(t:Stp)(M:MemS) :cU t.nm M=cU t M:=by
 unfold cU;simp only[GC,dt,bE,fm,DT,z7] <;> rfl
theorem GH(S:Setup)(op n a b:Int)(M:MemS) :aC S.nm op n a b M=aC S op n a b M:=by
 unfold aC;simp only[bE,fm] <;> rfl
theorem GI(S:Setup)(op n sp pc fuel:Int)(M:MemS) :bJ S.nm op n sp pc fuel M=bJ S op n sp pc fuel M:=by
 unfold bJ;simp only[tw,bE,GH] <;> rfl
theorem GJ(S:Setup)(code:List Ins)(n:Nat)(M:MemS) :ak S.nm code n M=ak S code n M:=by
 unfold ak;simp only[oQ,bE,GI] <;> rfl
theorem vf(e:Int)(t:Stp)(self other:Int)(M:MemS) :eK e t.nm self other M=eK e t self other M:=by
 unfold eK;simp only[tw,BZ,g9,iB,oQ,bE,GJ,qp,qr,qs,qt] <;> rfl
theorem vg(e:Int)(t:Stp)(self other:Int)(M:MemS) :dE e t.nm self other M=dE e t self other M:=by
 unfold dE;simp only[BZ,g9,oQ,bE] <;> rfl
theorem xg(r:VR)(over:Bool)(t:Stp)(SG:Bool)(M:MemS) :dw r over t.nm SG M=dw r over t SG M:=by
 unfold dw;simp only[dt,g9,iB,bE,NR,qp,qr,qs,qt] <;> rfl
theorem B3(t:Stp)(M:MemS) :eX t.nm M=eX t M:=by
 unfold eX;simp only[dt,iB,bE,jy,qp,qr,qs,qt,B0,B1,vf,vg,xg] <;> rfl
theorem xh(t:Stp)(M:MemS) :cS t.nm M=cS t M:=by
 unfold cS;simp only[bE,KQ,dt,g9,vf,vg] <;> rfl
theorem B4(t:Stp)(M:MemS) :eY t.nm M=eY t M:=by
 unfold eY;simp only[dt,iB,bE,fm,qp,qr,qs,qt,B0,B1,vf,vg,xg] <;> rfl
theorem B5(t:Stp)(M:MemS) :sF t.nm M=sF t M:=by
 unfold sF;simp only[dt,g9,bE,B2,qo,nX,xd] <;> rfl
theorem KR(t:Stp)(M:MemS) :xa t.nm M=xa t M:=by
 unfold xa;simp only[tu,dt,g9,bE,nX,B5] <;> rfl
theorem xi(t:Stp)(M:MemS) :fC t.nm M=fC t M:=by
 unfold fC;simp only[dt,g9,bE,fm,z6,KR] <;> rfl
theorem DY(t:Stp)(M:MemS) :dK t.nm M=dK t M:=by
 unfold dK;simp only[iA,dt,g9,bE,B5,xi] <;> rfl
theorem KS(t:Stp)(M:MemS) :sG t.nm M=sG t M:=by
 unfold sG;simp only[dt,g9,bE,B2,qo,nX,GD] <;> rfl
theorem GK(t:Stp)(M:MemS) :eL t.nm M=eL t M:=by
 unfold eL;simp only[dt,g9,bE,ve,KS] <;> rfl
theorem GL(t:Stp)(M:MemS) :fD t.nm M=fD t M:=by
 unfold fD;simp only[iA,dt,bE] <;> rfl
theorem xj(t:Stp)(M:MemS) :dQ t.nm M=dQ t M:=by
 unfold dQ;simp only[iA,dt,g9,bE,ve,z8,GK,GL] <;> rfl
theorem pN(t:Stp)(M:MemS) :bF t.nm M=bF t M:=by
 unfold bF;simp only[iA,xb,dt,g9,bE,DY] <;> rfl
def Gm.nm(g:Gm):Gm:={ g with S:=g.S.nm,cA:=none,cc:=0,ib:=0,io:=0,ic:=0,iR:=0,ins:=[] }
theorem lS(g:Gm)(M:MemS):g.nm.step M=(g.step M).nm:=rfl
structure GEq(g g':Gm):Prop where
 nm:g.nm=g'.nm
 inp:∀k,k<g.ni -> g.ins.getD (g.io+k) dI=g'.ins.getD (g'.io+k) dI
theorem DZ{g g':Gm}(h:GEq g g')(M:MemS):aR (g.step M) M=aR (g'.step M) M:=by
 have hs:(g.step M).nm=(g'.step M).nm:=by rw[<- lS,<- lS,h.nm]
 unfold aR;rw[<- tz (g.step M),hs,tz];generalize bj (g'.step M) M=N;have hb:bx (g.step M) N=bx (g'.step M) N:=by
  have hS:(g.step M).S.nm=(g'.step M).S.nm:=show (g.step M).nm.S=(g'.step M).nm.S by rw[hs]
  have hi:(g.step M).i=(g'.step M).i:=show (g.step M).nm.i=(g'.step M).nm.i by rw[hs]
  have hn:(g.step M).ni=(g'.step M).ni:=show (g.step M).nm.ni=(g'.step M).nm.ni by rw[hs]
  unfold bx;rw[<- jy (g.step M).S,hS,jy,hi,hn]
  by_cases h1:ah (g'.step M).S (g'.step M).i >= 0
  ·rw[if_pos h1,if_pos h1]
   by_cases h2:(g'.step M).i<(g'.step M).ni
   ·rw[if_pos h2,if_pos h2];have h3:0 <= (g'.step M).i:=by
     rcases Int.lt_or_le (g'.step M).i 0 with h4|h4
     ·unfold ah at h1;rw[if_pos h4] at h1;omega
     ·exact h4
    have e:(g.step M).inp (g'.step M).i.toNat=(g'.step M).inp (g'.step M).i.toNat:=by
     have h5:(g'.step M).i.toNat<g.ni:=by
      have h6:((g'.step M).ni:Int)=(g.ni:Int):=congrArg (Nat.cast) hn.symm;omega
     exact h.inp _ h5
    rw[e]
   ·rw[if_neg h2,if_neg h2]
  ·rw[if_neg h1,if_neg h1]
 rw[hb,<- tC (g.step M),hs,tC]
theorem vh{g g':Gm}(h:GEq g g')(M:MemS):eT g M=eT g' M:=by
 have hs:(g.step M).nm=(g'.step M).nm:=by rw[<- lS,<- lS,h.nm]
 unfold eT;rw[DZ h,<- B3 (g.step M),<- xh (g.step M),<- tD (g.step M),<- pN (g.step M),<- xj (g.step M),<- B4 (g.step M),<- xf (g.step M),hs,B3,xh,tD,pN,xj,B4,xf]
theorem GM{g g':Gm}(h:GEq g g')(M:MemS):jh g M=jh g' M:=by
 have hs:(g.step M).nm=(g'.step M).nm:=by rw[<- lS,<- lS,h.nm]
 unfold jh;rw[<- xe (g.step M),hs,xe]
theorem B6{g g':Gm}(h:GEq g g'):∀ (n:Nat) (M:MemS),fY g n M=fY g' n M
 | 0,_=>rfl
 | n+1,M=>by rw[fY,fY,jK,jK,vh h];exact B6 h n _
theorem xk{g g':Gm}(h:GEq g g'):∀ (n:Nat) (M:MemS),d9 g n M=d9 g' n M
 | 0,_=>rfl
 | n+1,M=>by rw[d9,d9,jK,jK,vh h,xk h n]
def MemS.sh(M:MemS)(l:List (Int × Int))(b:Int):MemS:=⟨M.cs,l++M.lg,b⟩
def VR.sh(r:VR)(l:List (Int × Int))(b:Int):VR:={ r with M:=r.M.sh l b }
theorem aV(M:MemS)(l:List (Int × Int))(b i:Int):(M.sh l b).get i=M.get i:=rfl
theorem aW(M:MemS)(l:List (Int × Int))(b i v:Int):(M.sh l b).set i v=(M.set i v).sh l b:=by
 unfold MemS.set MemS.sh;dsimp only;split
 ·simp
 ·rfl
theorem aZ(M N:MemS)(l:List (Int × Int))(b:Int)(c:Prop)[Decidable c]:(if c then M.sh l b else N.sh l b)=(if c then M else N).sh l b:=by split <;> rfl
theorem aI(M N:VR)(l:List (Int × Int))(b:Int)(c:Prop)[Decidable c]:(if c then M.sh l b else N.sh l b)=(if c then M else N).sh l b:=by split <;> rfl
theorem aX(M:MemS)(l:List (Int × Int))(b v:Int)(e:Eff)(em:Bool):(⟨M.sh l b,v,e,em⟩:VR)=VR.sh ⟨M,v,e,em⟩ l b:=rfl
theorem aB(code:List Ins)(M:MemS)(l:List (Int × Int))(b:Int):br code (M.sh l b)=br code M:=rfl
theorem bV(r:VR)(l:List (Int × Int))(b:Int):(r.sh l b).z=r.z.sh l b:=rfl
theorem bG(r:VR)(l:List (Int × Int))(b:Int):(r.sh l b).M=r.M.sh l b:=rfl
theorem bW(r:VR)(l:List (Int × Int))(b:Int):(r.sh l b).v=r.v:=rfl
theorem bK(r:VR)(l:List (Int × Int))(b:Int):(r.sh l b).e=r.e:=rfl
theorem aY(r:VR)(l:List (Int × Int))(b:Int):(r.sh l b).em=r.em:=rfl
theorem nY(S:Setup)(M:MemS)(k:Int)(l_:List (Int × Int))(b_:Int):ao S (M.sh l_ b_) k=ao S M k:=by
 unfold ao;simp only[aV,aW,aZ,aI,aX,bG,bW,bK,aY,aB,bV] <;> rfl
theorem gw(t:Stp)(ph j:Int)(M:MemS)(l_:List (Int × Int))(b_:Int):aM t ph j (M.sh l_ b_)=(aM t ph j M).sh l_ b_:=by
 unfold aM;simp only[aV,aW,aZ,aI,aX,bG,bW,bK,aY,aB,bV] <;> rfl
theorem Ac(t:Stp)(k:Int)(m:Mot)(M:MemS)(l_:List (Int × Int))(b_:Int):dq t k m (M.sh l_ b_)=(dq t k m M).sh l_ b_:=by
 unfold dq;simp only[aV,aW,aZ,aI,aX,bG,bW,bK,aY,aB,bV] <;> rfl
theorem D1(t:Stp)(c sp pos lo hi:Int)(M:MemS)(l_:List (Int × Int))(b_:Int):dR t c sp pos lo hi (M.sh l_ b_)=(dR t c sp pos lo hi M).sh l_ b_:=by
 unfold dR;simp only[aV,aW,aZ,aI,aX,bG,bW,bK,aY,aB,bV] <;> rfl
theorem D2(t:Stp)(M:MemS)(l_:List (Int × Int))(b_:Int):bj t (M.sh l_ b_)=(bj t M).sh l_ b_:=by
 unfold bj;simp only[aV,aW,aZ,aI,aX,bG,bW,bK,aY,aB,bV] <;> rfl
theorem D3(t:Stp)(M:MemS)(l_:List (Int × Int))(b_:Int):bx t (M.sh l_ b_)=(bx t M).sh l_ b_:=by
 unfold bx;simp only[aV,aW,aZ,aI,aX,bG,bW,bK,aY,aB,bV] <;> rfl
theorem D4(t:Stp)(M:MemS)(l_:List (Int × Int))(b_:Int):bL t (M.sh l_ b_)=(bL t M).sh l_ b_:=by
 unfold bL;simp only[aV,aW,aZ,aI,aX,bG,bW,bK,aY,aB,bV,gw] <;> rfl
theorem D5(t:Stp)(M:MemS)(l_:List (Int × Int))(b_:Int):aR t (M.sh l_ b_)=(aR t M).sh l_ b_:=by
 unfold aR;simp only[aV,aW,aZ,aI,aX,bG,bW,bK,aY,aB,bV,D2,D3,D4] <;> rfl
theorem GN(t:Stp)(M:MemS)(l_:List (Int × Int))(b_:Int):fO t (M.sh l_ b_)=(fO t M).sh l_ b_:=by
 unfold fO;simp only[aV,aW,aZ,aI,aX,bG,bW,bK,aY,aB,bV] <;> rfl
theorem tE(M:MemS)(l_:List (Int × Int))(b_:Int):∀n,cr (M.sh l_ b_) n=(cr M n).sh l_ b_
 | 0=>rfl
 | n+1=>by rw[cr,cr,tE M l_ b_ n,aW]
theorem GO(t:Stp)(M:MemS)(l_:List (Int × Int))(b_:Int):gm t (M.sh l_ b_)=(gm t M).sh l_ b_:=by
 unfold gm;simp only[aV,aW,aZ,aI,aX,bG,bW,bK,aY,aB,bV,tE] <;> rfl
theorem GP(t:Stp)(M:MemS)(l_:List (Int × Int))(b_:Int):du t (M.sh l_ b_)=(du t M).sh l_ b_:=by
 unfold du;simp only[aV,aW,aZ,aI,aX,bG,bW,bK,aY,aB,bV,GN,GO] <;> rfl
theorem D6(t:Stp)(M:MemS)(l_:List (Int × Int))(b_:Int):b6 t (M.sh l_ b_)=b6 t M:=by
 unfold b6;simp only[aV,aW,aZ,aI,aX,bG,bW,bK,aY,aB,bV,nY] <;> rfl
theorem D7(t:Stp)(M:MemS)(l_:List (Int × Int))(b_:Int):bD t (M.sh l_ b_)=(bD t M).sh l_ b_:=by
 unfold bD;simp only[aV,aW,aZ,aI,aX,bG,bW,bK,aY,aB,bV] <;> rfl
theorem D8(t:Stp)(M:MemS)(l_:List (Int × Int))(b_:Int):bH t (M.sh l_ b_)=(bH t M).sh l_ b_:=by
 unfold bH;simp only[aV,aW,aZ,aI,aX,bG,bW,bK,aY,aB,bV,D6] <;> rfl
theorem D9(t:Stp)(M:MemS)(l_:List (Int × Int))(b_:Int):bQ t (M.sh l_ b_)=(bQ t M).sh l_ b_:=by
 unfold bQ;simp only[aV,aW,aZ,aI,aX,bG,bW,bK,aY,aB,bV,gw] <;> rfl
theorem Ea(t:Stp)(M:MemS)(l_:List (Int × Int))(b_:Int):aS t (M.sh l_ b_)=(aS t M).sh l_ b_:=by
 unfold aS;simp only[aV,aW,aZ,aI,aX,bG,bW,bK,aY,aB,bV,D7,D8,D9] <;> rfl
theorem Ad(M:MemS)(l_:List (Int × Int))(b_:Int):lP (M.sh l_ b_)=lP M:=by
 unfold lP;simp only[aV,aW,aZ,aI,aX,bG,bW,bK,aY,aB,bV] <;> rfl
theorem Ae(t:Stp)(M:MemS)(l_:List (Int × Int))(b_:Int):gF t (M.sh l_ b_)=gF t M:=by
 unfold gF;simp only[aV,aW,aZ,aI,aX,bG,bW,bK,aY,aB,bV,nY,Ad] <;> rfl
theorem Af(t:Stp)(M:MemS)(l_:List (Int × Int))(b_:Int):cU t (M.sh l_ b_)=(cU t M).sh l_ b_:=by
 unfold cU;simp only[aV,aW,aZ,aI,aX,bG,bW,bK,aY,aB,bV,D1,Ae] <;> rfl
theorem GQ(k v:Int)(M:MemS)(l_:List (Int × Int))(b_:Int):cG k v (M.sh l_ b_)=(cG k v M).sh l_ b_:=by
 unfold cG;simp only[aV,aW,aZ,aI,aX,bG,bW,bK,aY,aB,bV] <;> rfl
theorem GR(S:Setup)(op n a b:Int)(M:MemS)(l_:List (Int × Int))(b_:Int):aC S op n a b (M.sh l_ b_)=(aC S op n a b M).sh l_ b_:=by
 unfold aC;simp only[aV,aW,aZ,aI,aX,bG,bW,bK,aY,aB,bV,GQ] <;> rfl
theorem KT(op sp:Int)(M:MemS)(l_:List (Int × Int))(b_:Int):eo op sp (M.sh l_ b_)=eo op sp M:=by
 unfold eo;simp only[aV,aW,aZ,aI,aX,bG,bW,bK,aY,aB,bV] <;> rfl
theorem KU(op sp:Int)(M:MemS)(l_:List (Int × Int))(b_:Int):ep op sp (M.sh l_ b_)=ep op sp M:=by
 unfold ep;simp only[aV,aW,aZ,aI,aX,bG,bW,bK,aY,aB,bV] <;> rfl
theorem KV(op sp pc fuel:Int)(M:MemS)(l_:List (Int × Int))(b_:Int):dJ op sp pc fuel (M.sh l_ b_)=(dJ op sp pc fuel M).sh l_ b_:=by
 unfold dJ;simp only[aV,aW,aZ,aI,aX,bG,bW,bK,aY,aB,bV] <;> rfl
theorem GS(S:Setup)(op n sp pc fuel:Int)(M:MemS)(l_:List (Int × Int))(b_:Int):bJ S op n sp pc fuel (M.sh l_ b_)=(bJ S op n sp pc fuel M).sh l_ b_:=by
 unfold bJ;simp only[aV,aW,aZ,aI,aX,bG,bW,bK,aY,aB,bV,GR,KT,KU,KV] <;> rfl
theorem xm(code:List Ins)(n:Nat)(M:MemS)(l_:List (Int × Int))(b_:Int):(dZ code n (M.sh l_ b_))=(dZ code n M):=by
 unfold dZ;simp only[aV,aW,aZ,aI,aX,bG,bW,bK,aY,aB,bV] <;> rfl
theorem GT(op sp:Int)(r:VR)(l_:List (Int × Int))(b_:Int):b7 op sp (r.sh l_ b_)=(b7 op sp r).sh l_ b_:=by
 unfold b7;simp only[aV,aW,aZ,aI,aX,bG,bW,bK,aY,aB,bV] <;> rfl
theorem GU(S:Setup)(code:List Ins)(n:Nat)(M:MemS)(l_:List (Int × Int))(b_:Int):ak S code n (M.sh l_ b_)=(ak S code n M).sh l_ b_:=by
 unfold ak;simp only[aV,aW,aZ,aI,aX,bG,bW,bK,aY,aB,bV,GS,xm,GT] <;> rfl
theorem KW(code:List Ins)(n:Nat)(M:MemS)(l_:List (Int × Int))(b_:Int):bz code n (M.sh l_ b_)=bz code n M:=by
 unfold bz;simp only[aV,aW,aZ,aI,aX,bG,bW,bK,aY,aB,bV,xm] <;> rfl
theorem Eb(e fuel self other:Int)(M:MemS)(l_:List (Int × Int))(b_:Int):aN e fuel self other (M.sh l_ b_)=(aN e fuel self other M).sh l_ b_:=by
 unfold aN;simp only[aV,aW,aZ,aI,aX,bG,bW,bK,aY,aB,bV] <;> rfl
theorem vi(e:Int)(t:Stp)(self other:Int)(M:MemS)(l_:List (Int × Int))(b_:Int):eK e t self other (M.sh l_ b_)=(eK e t self other M).sh l_ b_:=by
 unfold eK;simp only[aV,aW,aZ,aI,aX,bG,bW,bK,aY,aB,bV,GU,Eb] <;> rfl
theorem vj(e:Int)(t:Stp)(self other:Int)(M:MemS)(l_:List (Int × Int))(b_:Int):dE e t self other (M.sh l_ b_)=dE e t self other M:=by
 unfold dE;simp only[aV,aW,aZ,aI,aX,bG,bW,bK,aY,aB,bV,KW] <;> rfl
theorem xn(r:VR)(over:Bool)(t:Stp)(SG:Bool)(M:MemS)(l_:List (Int × Int))(b_:Int):dw (r.sh l_ b_) over t SG (M.sh l_ b_)=(dw r over t SG M).sh l_ b_:=by
 unfold dw;simp only[aV,aW,aZ,aI,aX,bG,bW,bK,aY,aB,bV] <;> rfl
theorem GV(t:Stp)(o:Int)(c:Bool)(M:MemS)(l_:List (Int × Int))(b_:Int):cH t o c (M.sh l_ b_)=(cH t o c M).sh l_ b_:=by
 unfold cH b8 jf;rw[vi,vj,xn]
theorem GW(t:Stp)(o:Int)(c:Bool)(M:MemS)(l_:List (Int × Int))(b_:Int):cJ t o c (M.sh l_ b_)=(cJ t o c M).sh l_ b_:=by
 unfold cJ b9 jg;rw[vi,vj,xn]
theorem KX(t:Stp)(M:MemS)(l_:List (Int × Int))(b_:Int):eX t (M.sh l_ b_)=(eX t M).sh l_ b_:=by
 unfold eX;simp only[aV,aW,aZ,aI,aX,bG,bW,bK,aY,aB,bV,gw,GV] <;> rfl
theorem GX(t:Stp)(M:MemS)(l_:List (Int × Int))(b_:Int):cS t (M.sh l_ b_)=(cS t M).sh l_ b_:=by
 unfold cS;simp only[aV,aW,aZ,aI,aX,bG,bW,bK,aY,aB,bV,gw,vi,vj] <;> rfl
theorem B7(t:Stp)(M:MemS)(l_:List (Int × Int))(b_:Int):sF t (M.sh l_ b_)=sF t M:=by
 unfold sF;simp only[aV,aW,aZ,aI,aX,bG,bW,bK,aY,aB,bV,nY] <;> rfl
theorem KY(t:Stp)(M:MemS)(l_:List (Int × Int))(b_:Int):xa t (M.sh l_ b_)=xa t M:=by
 unfold xa;simp only[aV,aW,aZ,aI,aX,bG,bW,bK,aY,aB,bV,nY,B7] <;> rfl
theorem xo(t:Stp)(M:MemS)(l_:List (Int × Int))(b_:Int):fC t (M.sh l_ b_)=(fC t M).sh l_ b_:=by
 unfold fC;simp only[aV,aW,aZ,aI,aX,bG,bW,bK,aY,aB,bV,Ac,KY] <;> rfl
theorem Ec(t:Stp)(M:MemS)(l_:List (Int × Int))(b_:Int):dK t (M.sh l_ b_)=(dK t M).sh l_ b_:=by
 unfold dK;simp only[aV,aW,aZ,aI,aX,bG,bW,bK,aY,aB,bV,B7,xo] <;> rfl
theorem KZ(t:Stp)(M:MemS)(l_:List (Int × Int))(b_:Int):sG t (M.sh l_ b_)=sG t M:=by
 unfold sG;simp only[aV,aW,aZ,aI,aX,bG,bW,bK,aY,aB,bV,nY] <;> rfl
theorem GY(t:Stp)(M:MemS)(l_:List (Int × Int))(b_:Int):eL t (M.sh l_ b_)=(eL t M).sh l_ b_:=by
 unfold eL;simp only[aV,aW,aZ,aI,aX,bG,bW,bK,aY,aB,bV,KZ] <;> rfl
theorem GZ(t:Stp)(M:MemS)(l_:List (Int × Int))(b_:Int):fD t (M.sh l_ b_)=(fD t M).sh l_ b_:=by
 unfold fD;simp only[aV,aW,aZ,aI,aX,bG,bW,bK,aY,aB,bV,gw] <;> rfl
theorem G1(t:Stp)(M:MemS)(l_:List (Int × Int))(b_:Int):dQ t (M.sh l_ b_)=(dQ t M).sh l_ b_:=by
 unfold dQ;simp only[aV,aW,aZ,aI,aX,bG,bW,bK,aY,aB,bV,Af,GY,GZ] <;> rfl
theorem xp(t:Stp)(M:MemS)(l_:List (Int × Int))(b_:Int):bF t (M.sh l_ b_)=(bF t M).sh l_ b_:=by
 unfold bF;simp only[aV,aW,aZ,aI,aX,bG,bW,bK,aY,aB,bV,gw,Ec] <;> rfl
theorem K3(t:Stp)(M:MemS)(l_:List (Int × Int))(b_:Int):eY t (M.sh l_ b_)=(eY t M).sh l_ b_:=by
 unfold eY;simp only[aV,aW,aZ,aI,aX,bG,bW,bK,aY,aB,bV,gw,GW] <;> rfl
theorem K4(g:Gm)(M:MemS)(l:List (Int × Int))(b:Int):g.step (M.sh l b)=g.step M:=rfl
theorem vk(g:Gm)(M:MemS)(l:List (Int × Int))(b:Int):eT g (M.sh l b)=(eT g M).sh l b:=by
 unfold eT;simp only[K4,aV,D5,KX,GX,Ea,xp,G1,K3,GP,aX,aI]
theorem G2(g:Gm)(M:MemS)(l:List (Int × Int))(b:Int):jh g (M.sh l b)=jh g M:=rfl
theorem B8(g:Gm)(l:List (Int × Int))(b:Int):∀ (n:Nat) (M:MemS),fY g n (M.sh l b)=(fY g n M).sh l b
 | 0,_=>rfl
 | n+1,M=>by rw[fY,fY,jK,jK,vk,bG];exact B8 g l b n _
theorem xq(g:Gm)(l:List (Int × Int))(b:Int):∀ (n:Nat) (M:MemS),d9 g n (M.sh l b)=d9 g n M
 | 0,_=>rfl
 | n+1,M=>by rw[d9,d9,jK,jK,vk,bG,bK,aY,xq g l b n]
def B9(g:Gm):Nat -> MemS -> Nat
 | 0,_=>0
 | f+1,M=>if jh g M=true then 0 else B9 g f (jK g M)+1
theorem G3{g:Gm}:∀ (m f:Nat) (M:MemS),dV g (m+1) M -> m<f -> B9 g f M=m
 | m,0,M,_,h=>by omega
 | 0,f+1,M,h,_=>by
  rcases h.2 with ⟨_,e⟩|⟨_,e⟩
  ·rw[B9,if_pos e]
  ·exact e.elim
 | m+1,f+1,M,h,hf=>by
  rcases h.2 with ⟨e,_⟩|⟨e1,e2⟩
  ·omega
  ·rw[B9,if_neg (by rw[e1];simp),G3 m f _ e2 (by omega)]
def iq(g:Gm)(M:MemS):MemS:=fY g (B9 g 1000 M+1) M
def pX(g:Gm)(M:MemS):List Eff:=d9 g (B9 g 1000 M+1) M
theorem Ag{g g':Gm}(h:GEq g g'):∀ (f:Nat) (M:MemS),B9 g f M=B9 g' f M
 | 0,_=>rfl
 | f+1,M=>by rw[B9,B9,GM h,jK,jK,vh h,Ag h f]
theorem Ah{g g':Gm}(h:GEq g g')(M:MemS):iq g M=iq g' M:=by rw[iq,iq,Ag h,B6 h]
theorem NS{g g':Gm}(h:GEq g g')(M:MemS):pX g M=pX g' M:=by rw[pX,pX,Ag h,xk h]
theorem Ai(g:Gm)(l:List (Int × Int))(b:Int):∀ (f:Nat) (M:MemS),B9 g f (M.sh l b)=B9 g f M
 | 0,_=>rfl
 | f+1,M=>by rw[B9,B9,G2,jK,jK,vk,bG,Ai g l b f]
theorem vn(g:Gm)(M:MemS)(l:List (Int × Int))(b:Int):iq g (M.sh l b)=(iq g M).sh l b:=by rw[iq,iq,Ai,B8]
theorem G4(g:Gm)(M:MemS)(l:List (Int × Int))(b:Int):pX g (M.sh l b)=pX g M:=by rw[pX,pX,Ai,xq]
theorem lu(M:MemS):(MemS.sh ⟨M.cs,[],0⟩ M.lg M.base)=M:=by cases M;simp[MemS.sh]
theorem oS(g:Gm){M N:MemS}(h:M.cs=N.cs):(iq g M).cs=(iq g N).cs:=by
 rw[<- lu M,<- lu N,vn,vn,h];rfl
theorem NT(g:Gm){M N:MemS}(h:M.cs=N.cs):pX g M=pX g N:=by
 rw[<- lu M,<- lu N,G4,G4,h]
def i6(g:Gm):Nat -> MemS -> List (Eff × Bool)
 | 0,_=>[]
 | n+1,M=>((eT g M).e,(eT g M).em)::i6 g n (jK g M)
theorem i7(g:Gm):∀ (n:Nat) (M:MemS),(i6 g n M).length=n
 | 0,_=>rfl
 | n+1,M=>by rw[i6,aaS,i7 g n]
def mt:List (Eff × Bool) -> List Eff
 | []=>[]
 | x::l=>(if x.2=true then [x.1] else [])++mt l
theorem xr(g:Gm):∀ (n:Nat) (M:MemS),mt (i6 g n M)=d9 g n M
 | 0,_=>rfl
 | n+1,M=>by rw[i6,mt,xr g n,d9]
theorem qV:∀ (l m:List (Eff × Bool)),mt (l++m)=mt l++mt m
 | [],m=>rfl
 | x::l,m=>by rw[List.cons_append,mt,mt,qV l m,aaH]
theorem xt:∀ (l:List (Eff × Bool)),(mt l).length <= l.length
 | []=>aaK _
 | x::l=>by
  have:=xt l;rw[mt,aaP,aaS];split
  ·simp;omega
  ·simp;omega
theorem G5{l:List (Eff × Bool)}{i:Nat}{x:Eff × Bool}(h:l[i]?=some x)(e:x.2=true):mt (l.take (i+1))=mt (l.take i)++[x.1]:=by
 rw[List.take_add_one,h,qV];show _++((if x.2=true then [x.1] else [])++[])=_;rw[if_pos e];rfl
theorem K5{l:List (Eff × Bool)}{i:Nat}{x:Eff × Bool}(h:l[i]?=some x)(e:¬ x.2=true):mt (l.take (i+1))=mt (l.take i):=by
 rw[List.take_add_one,h,qV];show _++((if x.2=true then [x.1] else [])++[])=_;rw[if_neg e];simp
theorem gQ{g:Gm}{l:List (Eff × Bool)}{i r:Nat}{M:MemS}(h:l.drop i=i6 g (r+1) M):l[i]?=some ((eT g M).e,(eT g M).em) /\ l.drop (i+1)=i6 g r (jK g M):=by
 constructor
 ·have:=congrArg (·[0]?) h;simpa [i6] using this
 ·have:=congrArg List.tail h;rwa [List.tail_drop] at this
theorem bS{p:MemS -> Prop}{c:Prop}[Decidable c]{A B:MemS}(h1:p A)(h2:p B):p (if c then A else B):=by split <;> assumption
theorem bq{p:MemS -> Prop}{c:Prop}[Decidable c]{A B:VR}(h1:p A.M)(h2:p B.M):p (if c then A else B).M:=by split <;> assumption
theorem dp{p:MemS -> Prop}{r:VR}(h:p r.M):p r.z.M:=h
theorem gx{p:MemS -> Prop}(hp:∀ (M:MemS) (i v:Int),p M -> p (M.set i v))(t:Stp)(ph j:Int)(M:MemS)(Sl:p M):p (aM t ph j M):=by
 unfold aM
 repeat' (first|with_reducible assumption|with_reducible apply hp|with_reducible apply bS|with_reducible apply bq|with_reducible apply dp|split|assumption)
theorem Aj{p:MemS -> Prop}(hp:∀ (M:MemS) (i v:Int),p M -> p (M.set i v))(t:Stp)(k:Int)(m:Mot)(M:MemS)(Sl:p M):p (dq t k m M):=by
 unfold dq
 repeat' (first|with_reducible assumption|with_reducible apply hp|with_reducible apply bS|with_reducible apply bq|with_reducible apply dp|split|assumption)
theorem Ed{p:MemS -> Prop}(hp:∀ (M:MemS) (i v:Int),p M -> p (M.set i v))(t:Stp)(c sp pos lo hi:Int)(M:MemS)(Sl:p M):p (dR t c sp pos lo hi M):=by
 unfold dR
 repeat' (first|with_reducible assumption|with_reducible apply hp|with_reducible apply bS|with_reducible apply bq|with_reducible apply dp|split|assumption)
theorem Ee{p:MemS -> Prop}(hp:∀ (M:MemS) (i v:Int),p M -> p (M.set i v))(t:Stp)(M:MemS)(Sl:p M):p (bj t M):=by
 unfold bj
 repeat' (first|with_reducible assumption|with_reducible apply hp|with_reducible apply bS|with_reducible apply bq|with_reducible apply dp|split|assumption)
theorem Eg{p:MemS -> Prop}(hp:∀ (M:MemS) (i v:Int),p M -> p (M.set i v))(t:Stp)(M:MemS)(Sl:p M):p (bx t M):=by
 unfold bx
 repeat' (first|with_reducible assumption|with_reducible apply hp|with_reducible apply bS|with_reducible apply bq|with_reducible apply dp|split|assumption)
theorem Eh{p:MemS -> Prop}(hp:∀ (M:MemS) (i v:Int),p M -> p (M.set i v))(t:Stp)(M:MemS)(Sl:p M):p (bL t M):=by
 unfold bL
 repeat' (first|with_reducible assumption|with_reducible apply hp|with_reducible apply gx hp|with_reducible apply bS|with_reducible apply bq|with_reducible apply dp|split|assumption)
theorem Ei{p:MemS -> Prop}(hp:∀ (M:MemS) (i v:Int),p M -> p (M.set i v))(t:Stp)(M:MemS)(Sl:p M):p (aR t M):=by
 unfold aR
 repeat' (first|with_reducible assumption|with_reducible apply hp|with_reducible apply Ee hp|with_reducible apply Eg hp|with_reducible apply Eh hp|with_reducible apply bS|with_reducible apply bq|with_reducible apply dp|split|assumption)
theorem G6{p:MemS -> Prop}(hp:∀ (M:MemS) (i v:Int),p M -> p (M.set i v))(t:Stp)(M:MemS)(Sl:p M):p (fO t M):=by
 unfold fO
 repeat' (first|with_reducible assumption|with_reducible apply hp|with_reducible apply bS|with_reducible apply bq|with_reducible apply dp|split|assumption)
theorem tF{p:MemS -> Prop}(hp:∀ (M:MemS) (i v:Int),p M -> p (M.set i v))(M:MemS)(h:p M):∀n,p (cr M n)
 | 0=>h
 | n+1=>by rw[cr];exact hp _ _ _ (tF hp M h n)
theorem G7{p:MemS -> Prop}(hp:∀ (M:MemS) (i v:Int),p M -> p (M.set i v))(t:Stp)(M:MemS)(Sl:p M):p (gm t M):=by
 unfold gm
 repeat' (first|with_reducible assumption|with_reducible apply hp|with_reducible apply tF hp|with_reducible apply bS|with_reducible apply bq|with_reducible apply dp|split|assumption)
theorem G8{p:MemS -> Prop}(hp:∀ (M:MemS) (i v:Int),p M -> p (M.set i v))(t:Stp)(M:MemS)(Sl:p M):p (du t M):=by
 unfold du
 repeat' (first|with_reducible assumption|with_reducible apply hp|with_reducible apply G6 hp|with_reducible apply G7 hp|with_reducible apply bS|with_reducible apply bq|with_reducible apply dp|split|assumption)
theorem Ej{p:MemS -> Prop}(hp:∀ (M:MemS) (i v:Int),p M -> p (M.set i v))(t:Stp)(M:MemS)(Sl:p M):p (bD t M):=by
 unfold bD
 repeat' (first|with_reducible assumption|with_reducible apply hp|with_reducible apply bS|with_reducible apply bq|with_reducible apply dp|split|assumption)
theorem Ek{p:MemS -> Prop}(hp:∀ (M:MemS) (i v:Int),p M -> p (M.set i v))(t:Stp)(M:MemS)(Sl:p M):p (bH t M):=by
 unfold bH
 repeat' (first|with_reducible assumption|with_reducible apply hp|with_reducible apply bS|with_reducible apply bq|with_reducible apply dp|split|assumption)
theorem El{p:MemS -> Prop}(hp:∀ (M:MemS) (i v:Int),p M -> p (M.set i v))(t:Stp)(M:MemS)(Sl:p M):p (bQ t M):=by
 unfold bQ
 repeat' (first|with_reducible assumption|with_reducible apply hp|with_reducible apply gx hp|with_reducible apply bS|with_reducible apply bq|with_reducible apply dp|split|assumption)
theorem Em{p:MemS -> Prop}(hp:∀ (M:MemS) (i v:Int),p M -> p (M.set i v))(t:Stp)(M:MemS)(Sl:p M):p (aS t M):=by
 unfold aS
 repeat' (first|with_reducible assumption|with_reducible apply hp|with_reducible apply Ej hp|with_reducible apply Ek hp|with_reducible apply El hp|with_reducible apply bS|with_reducible apply bq|with_reducible apply dp|split|assumption)
theorem Ak{p:MemS -> Prop}(hp:∀ (M:MemS) (i v:Int),p M -> p (M.set i v))(t:Stp)(M:MemS)(Sl:p M):p (cU t M):=by
 unfold cU
 repeat' (first|with_reducible assumption|with_reducible apply hp|with_reducible apply Ed hp|with_reducible apply bS|with_reducible apply bq|with_reducible apply dp|split|assumption)
theorem G9{p:MemS -> Prop}(hp:∀ (M:MemS) (i v:Int),p M -> p (M.set i v))(k v:Int)(M:MemS)(Sl:p M):p (cG k v M).M:=by
 unfold cG
 repeat' (first|with_reducible assumption|with_reducible apply hp|with_reducible apply bS|with_reducible apply bq|with_reducible apply dp|split|assumption)
theorem Hb{p:MemS -> Prop}(hp:∀ (M:MemS) (i v:Int),p M -> p (M.set i v))(S:Setup)(op n a b:Int)(M:MemS)(Sl:p M):p (aC S op n a b M).M:=by
 unfold aC
 repeat' (first|with_reducible assumption|with_reducible apply hp|with_reducible apply G9 hp|with_reducible apply bS|with_reducible apply bq|with_reducible apply dp|split|assumption)
theorem K6{p:MemS -> Prop}(hp:∀ (M:MemS) (i v:Int),p M -> p (M.set i v))(op sp pc fuel:Int)(M:MemS)(Sl:p M):p (dJ op sp pc fuel M):=by
 unfold dJ
 repeat' (first|with_reducible assumption|with_reducible apply hp|with_reducible apply bS|with_reducible apply bq|with_reducible apply dp|split|assumption)
theorem Hc{p:MemS -> Prop}(hp:∀ (M:MemS) (i v:Int),p M -> p (M.set i v))(S:Setup)(op n sp pc fuel:Int)(M:MemS)(Sl:p M):p (bJ S op n sp pc fuel M).M:=by
 unfold bJ
 repeat' (first|with_reducible assumption|with_reducible apply hp|with_reducible apply Hb hp|with_reducible apply K6 hp|with_reducible apply bS|with_reducible apply bq|with_reducible apply dp|split|assumption)
theorem He{p:MemS -> Prop}(hp:∀ (M:MemS) (i v:Int),p M -> p (M.set i v))(op sp:Int)(r:VR)(Sl:p r.M):p (b7 op sp r).M:=by
 unfold b7
 repeat' (first|with_reducible assumption|with_reducible apply hp|with_reducible apply bS|with_reducible apply bq|with_reducible apply dp|split|assumption)
theorem Hf{p:MemS -> Prop}(hp:∀ (M:MemS) (i v:Int),p M -> p (M.set i v))(S:Setup)(code:List Ins)(n:Nat)(M:MemS)(Sl:p M):p (ak S code n M).M:=by
 unfold ak
 repeat' (first|with_reducible assumption|with_reducible apply hp|with_reducible apply Hc hp|with_reducible apply He hp|with_reducible apply bS|with_reducible apply bq|with_reducible apply dp|split|assumption)
theorem Eo{p:MemS -> Prop}(hp:∀ (M:MemS) (i v:Int),p M -> p (M.set i v))(e fuel self other:Int)(M:MemS)(Sl:p M):p (aN e fuel self other M):=by
 unfold aN
 repeat' (first|with_reducible assumption|with_reducible apply hp|with_reducible apply bS|with_reducible apply bq|with_reducible apply dp|split|assumption)
theorem vp{p:MemS -> Prop}(hp:∀ (M:MemS) (i v:Int),p M -> p (M.set i v))(e:Int)(t:Stp)(self other:Int)(M:MemS)(Sl:p M):p (eK e t self other M).M:=by
 unfold eK
 repeat' (first|with_reducible assumption|with_reducible apply hp|with_reducible apply Hf hp|with_reducible apply Eo hp|with_reducible apply bS|with_reducible apply bq|with_reducible apply dp|split|assumption)
theorem jX{p:MemS -> Prop}(hp:∀ (M:MemS) (i v:Int),p M -> p (M.set i v))(r:VR)(over:Bool)(t:Stp)(SG:Bool)(M:MemS)(Sl:p r.M)(YV:p M):p (dw r over t SG M).M:=by
 unfold dw
 repeat' (first|with_reducible assumption|with_reducible apply hp|with_reducible apply bS|with_reducible apply bq|with_reducible apply dp|split|assumption)
theorem Hg{p:MemS -> Prop}(hp:∀ (M:MemS) (i v:Int),p M -> p (M.set i v))(t:Stp)(o:Int)(c:Bool)(M:MemS)(h:p M):p (cH t o c M).M:=by
 unfold cH b8 jf
 first|exact jX hp _ _ _ _ _ h|exact jX hp _ _ _ _ h|(repeat' (first|assumption|apply jX hp|apply vp hp|split))
theorem Hh{p:MemS -> Prop}(hp:∀ (M:MemS) (i v:Int),p M -> p (M.set i v))(t:Stp)(o:Int)(c:Bool)(M:MemS)(h:p M):p (cJ t o c M).M:=by
 unfold cJ b9 jg
 first|exact jX hp _ _ _ _ _ h|exact jX hp _ _ _ _ h|(repeat' (first|assumption|apply jX hp|apply vp hp|split))
theorem K7{p:MemS -> Prop}(hp:∀ (M:MemS) (i v:Int),p M -> p (M.set i v))(t:Stp)(M:MemS)(Sl:p M):p (eX t M).M:=by
 unfold eX
 repeat' (first|with_reducible assumption|with_reducible apply hp|with_reducible apply gx hp|with_reducible apply Hg hp|with_reducible apply bS|with_reducible apply bq|with_reducible apply dp|split|assumption)
theorem Hj{p:MemS -> Prop}(hp:∀ (M:MemS) (i v:Int),p M -> p (M.set i v))(t:Stp)(M:MemS)(Sl:p M):p (cS t M).M:=by
 unfold cS
 repeat' (first|with_reducible assumption|with_reducible apply hp|with_reducible apply gx hp|with_reducible apply vp hp|with_reducible apply bS|with_reducible apply bq|with_reducible apply dp|split|assumption)
theorem xu{p:MemS -> Prop}(hp:∀ (M:MemS) (i v:Int),p M -> p (M.set i v))(t:Stp)(M:MemS)(Sl:p M):p (fC t M):=by
 unfold fC
 repeat' (first|with_reducible assumption|with_reducible apply hp|with_reducible apply Aj hp|with_reducible apply bS|with_reducible apply bq|with_reducible apply dp|split|assumption)
theorem Ep{p:MemS -> Prop}(hp:∀ (M:MemS) (i v:Int),p M -> p (M.set i v))(t:Stp)(M:MemS)(Sl:p M):p (dK t M):=by
 unfold dK
 repeat' (first|with_reducible assumption|with_reducible apply hp|with_reducible apply xu hp|with_reducible apply bS|with_reducible apply bq|with_reducible apply dp|split|assumption)
theorem Hk{p:MemS -> Prop}(hp:∀ (M:MemS) (i v:Int),p M -> p (M.set i v))(t:Stp)(M:MemS)(Sl:p M):p (eL t M):=by
 unfold eL
 repeat' (first|with_reducible assumption|with_reducible apply hp|with_reducible apply bS|with_reducible apply bq|with_reducible apply dp|split|assumption)
theorem Hm{p:MemS -> Prop}(hp:∀ (M:MemS) (i v:Int),p M -> p (M.set i v))(t:Stp)(M:MemS)(Sl:p M):p (fD t M):=by
 unfold fD
 repeat' (first|with_reducible assumption|with_reducible apply hp|with_reducible apply gx hp|with_reducible apply bS|with_reducible apply bq|with_reducible apply dp|split|assumption)
theorem Hn{p:MemS -> Prop}(hp:∀ (M:MemS) (i v:Int),p M -> p (M.set i v))(t:Stp)(M:MemS)(Sl:p M):p (dQ t M):=by
 unfold dQ
 repeat' (first|with_reducible assumption|with_reducible apply hp|with_reducible apply Ak hp|with_reducible apply Hk hp|with_reducible apply Hm hp|with_reducible apply bS|with_reducible apply bq|with_reducible apply dp|split|assumption)
theorem xv{p:MemS -> Prop}(hp:∀ (M:MemS) (i v:Int),p M -> p (M.set i v))(t:Stp)(M:MemS)(Sl:p M):p (bF t M):=by
 unfold bF
 repeat' (first|with_reducible assumption|with_reducible apply hp|with_reducible apply gx hp|with_reducible apply Ep hp|with_reducible apply bS|with_reducible apply bq|with_reducible apply dp|split|assumption)
theorem K8{p:MemS -> Prop}(hp:∀ (M:MemS) (i v:Int),p M -> p (M.set i v))(t:Stp)(M:MemS)(Sl:p M):p (eY t M).M:=by
 unfold eY
 repeat' (first|with_reducible assumption|with_reducible apply hp|with_reducible apply gx hp|with_reducible apply Hh hp|with_reducible apply bS|with_reducible apply bq|with_reducible apply dp|split|assumption)
theorem NU{p:MemS -> Prop}(hp:∀ (M:MemS) (i v:Int),p M -> p (M.set i v))(g:Gm)(M:MemS)(h:p M):p (eT g M).M:=by
 unfold eT
 repeat' (first|with_reducible assumption|with_reducible apply Ei hp|with_reducible apply G8 hp|with_reducible apply Em hp|with_reducible apply K7 hp|with_reducible apply Hj hp|with_reducible apply Hn hp|with_reducible apply xv hp|with_reducible apply K8 hp|with_reducible apply bS|with_reducible apply bq|split)
theorem Ca{p:MemS -> Prop}(hp:∀ (M:MemS) (i v:Int),p M -> p (M.set i v))(g:Gm):∀ (n:Nat) (M:MemS),p M -> p (fY g n M)
 | 0,_,h=>h
 | n+1,M,h=>by rw[fY,jK];exact Ca hp g n _ (NU hp g M h)
theorem NV{p:MemS -> Prop}(hp:∀ (M:MemS) (i v:Int),p M -> p (M.set i v))(g:Gm)(M:MemS)(h:p M):p (iq g M):=Ca hp g _ M h
def gR(cs:List Int)(es:List (Int × Int)):List Int:=es.foldr (λ e c=>c.set e.1.toNat e.2) cs
structure UndP(c:List Int)(M:MemS):Prop where
 und:gR M.cs M.lg=c
 len:M.cs.length=c.length
 ent:∀e∈M.lg,0 <= e.1 /\ e.1<(c.length:Int)
theorem UndP.set{c:List Int}(M:MemS)(i v:Int)(h:UndP c M):UndP c (M.set i v):=by
 unfold MemS.set;split
 ·next hi =>
  have hl:=h.len;refine⟨?_,by show (M.cs.set _ _).length=_;rw[List.length_set];exact hl,?_⟩
  ·show gR (M.cs.set _ _) (M.lg++[_])=c;unfold gR;rw[List.foldr_append];show M.lg.foldr _ ((M.cs.set i.toNat v).set i.toNat (M.cs.getD i.toNat 0))=c;have e:(M.cs.set i.toNat v).set i.toNat (M.cs.getD i.toNat 0)=M.cs:=by
    rw[List.set_set];apply List.ext_getElem?;intro k;rw[List.getElem?_set];split
    ·next e=>subst e;rw[if_pos (by omega),aaI,aaT (by omega)];rfl
    ·rfl
   rw[e];exact h.und
  ·intro e he;rcases List.mem_append.1 he with he|he
   ·exact h.ent e he
   ·rw[List.mem_singleton] at he;subst he;exact⟨by omega,by show i<_;omega⟩
 ·exact h
theorem Al(c:List Int)(b:Int):UndP c ⟨c,[],b⟩:=⟨rfl,rfl,λ _ h=>by cases h⟩
theorem NW(g:Gm)(M:MemS):∃es,(iq g M).lg=M.lg++es /\ (iq g M).base=M.base /\ UndP M.cs ⟨(iq g M).cs,es,0⟩:=by
 have h:=NV (p:=UndP M.cs) UndP.set g ⟨M.cs,[],0⟩ (Al M.cs 0);have e:iq g M=(iq g ⟨M.cs,[],0⟩).sh M.lg M.base:=by rw[<- vn,lu]
 rw[e];refine⟨(iq g ⟨M.cs,[],0⟩).lg,rfl,rfl,?_⟩;exact⟨h.und,h.len,h.ent⟩
end Go.Proofs.YtdppjkjbghbnjaaGreatDoor
