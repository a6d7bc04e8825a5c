import Derived.Test.YthoijjeddhfcnaaGreatDoorZ06
set_option maxHeartbeats 4000000
set_option maxRecDepth 100000
set_option linter.unusedSimpArgs false
set_option linter.unusedVariables false
namespace Go.Proofs.YthoijjeddhfcnaaGreatDoor
open IntKind
open Go.RowKit
def fK(t:Stp):Bool:=if aV (t.i+1)<t.S.nb then t.ended else true
def eA(t:Stp)(M:MemS):MemS:=if ae t.S t.i >= 0 then M.set (ae t.S t.i+7) (if M.get (ae t.S t.i+2)=0 then if M.get (ae t.S t.i+3)=0 then (if 1000<aV (M.get (ae t.S t.i+7)+1) then 1000 else aV (M.get (ae t.S t.i+7)+1)) else 0 else 0) else M
def cf(M:MemS):Nat -> MemS
 | 0=>M
 | n+1=>(cf M n).set ((n+1:Nat):Int) 0
def fT(t:Stp)(M:MemS):MemS:=if aV (t.i+1)<t.S.nb then M.set 2 (aV (t.i+1)) else cf (M.set 0 (aV (M.get 0+1))) 10
def dg(t:Stp)(M:MemS):MemS:=fT t (eA t M)
def bO(t:Stp)(M:MemS):V2:=ar (if ah t.S t.i >= 0 then ay (ay ⟨(ai t.S M t.i).vx,(ai t.S M t.i).vy⟩ t.S.g) ⟨aV (M.get (ah t.S t.i+0)*t.S.push),aV (M.get (ah t.S t.i+1)*t.S.push)⟩ else ay ⟨(ai t.S M t.i).vx,(ai t.S M t.i).vy⟩ t.S.g) (aV (1024-t.S.drag))
def bA(t:Stp)(M:MemS):MemS:=if ae t.S t.i >= 0 then M.set (ae t.S t.i+6) 0 else M
def bB(t:Stp)(M:MemS):MemS:=if movP t.S t.i then (M.set (ae t.S t.i+2) (az (bO t M).x (-16384) 16384)).set (ae t.S t.i+3) (az (bO t M).y (-16384) 16384) else M
def bW(t:Stp)(M:MemS):MemS:=if aV (t.i+1)<t.S.nb then M.set 2 (aV (t.i+1)) else (aQ t 4 1 M).set 4 0
def aM(t:Stp)(M:MemS):MemS:=bW t (bB t (bA t M))
def iQ(M:MemS):Int:=if aV (M.get 5+128)<1024 then aV (M.get 5+128) else 1024
def eC(t:Stp)(M:MemS):V2:=ay ⟨(ai t.S M t.i).px,(ai t.S M t.i).py⟩ (aY ⟨(ai t.S M t.i).vx,(ai t.S M t.i).vy⟩ (iQ M) 1024)
def bI(t:Stp)(M:MemS):MemS:=b7 t (ae t.S t.i+1) (ae t.S t.i+3) (eC t M).y t.S.box.y0 t.S.box.y1 (b7 t (ae t.S t.i+0) (ae t.S t.i+2) (eC t M).x t.S.box.x0 t.S.box.x1 M)
theorem Bq(t:Stp)  (tb mb:Nat) (M:MemS) (k:Nat) (T F:HL) (hM:MemH mb M (k+8) T) (hS:SetIn F t.S) :Sp Tryz.prog 87 #[vP tb 0] (ap [(tb,.lit (Stp.l t mb) 181 (0,0))] [T]) F (λ u H'=>∃x,H'=ap [(tb,.lit (Stp.l t mb) 181 (0,0))] [x] /\ (MemH mb (aM t M) k x)):=by
 have hp:=hS.pl
 have hn:=hS.nb
 have hr:=hS.room
 refine Sp.run Tryz.func87 rfl (mc hS.blk mn) (A:=[(tb,.lit (Stp.l t mb) 181 (0,0))]) (Ts:=[T]) rfl λ w0=>?_
 refine aa 2 [] λ _=>RN.draw [] []<|af [] [0,4,1,5,2,6,3,7] (ow 0 17)<|au [] 8 (λ X_=>(cy t.S t.i _ hS.toSetN)) ?_
 have Ri:=cw hS.toSetN t.i
 refine af [] [9] []<|RD.fin<|aa 7 [] λ _=>RN.em (ae t.S t.i >= 0) 19 (λ h2=>?_) λ h2=>?_
 ·refine aq 8 [.own 0,.nw] [bF ((ae t.S t.i)+6)] λ _=>RN.ct [] [0] (ak ((ae t.S t.i)+6) 0 hM) ?_
  rintro _ T3 C_
  refine aa 10 [.own 0] λ _=>al (iP t t.i tb mb _ (aC 0) hS.up)<|aa 2 [] λ _=>RN.em (movP t.S t.i) 32 (λ h5=>?_) λ h5=>?_
  ·have:=movP.has h5
   refine aa 8 [.own 0] λ _=>al (fH t t.i tb mb (M.set ((ae t.S t.i)+6) 0) _ T3 _ (aC 0) hS.up C_ (aS 0) (movP.has h5))<|aa 5 (ow 0 5) λ n6=>RN.draw [9] []<|af [] [0,2,1,3,4,5,6] [.own 0,.own 0,.own 1,.own 1]<|au [] 7 (λ X_=>(dM (⟨(ai t.S (M.set ((ae t.S t.i)+6) 0) t.i).vx,(ai t.S (M.set ((ae t.S t.i)+6) 0) t.i).vy⟩:V2) t.S.g  _))<|RD.one 8 (RDO.ev [] [] λ n7=>?_)
   refine RD.one 9 (RDO.ev [] [.own 0,.own 0] λ _=>?_)
   refine RD.fin<|aa 3 [] λ _=>RN.draw [] []<|af [] [0,4,1,5,2,6,3,7] (ow 2 17)<|au [] 8 (λ X_=>(gi t.S t.i _ hS.toSetN)) ?_
   have hb8:=gh hS.toSetN t.i
   refine af [] [9] []<|RD.fin<|aa 7 [] λ _=>RN.em (ah t.S t.i >= 0) 57 (λ h9=>?_) λ h9=>?_
   ·refine aa 2 [] λ _=>RN.draw [] []<|aL [] [0,4,7,11,1,5,8,12,2,9,3,10] [.nw,.nw,.own 2,.own 2] [bF ((ah t.S t.i)+1),bF ((ah t.S t.i)+0)]<|au [] 6 (λ X_=>(aB ((ah t.S t.i)+0) C_ (bt 0)))<|au [] 13 (λ X_=>(aB ((ah t.S t.i)+1) C_ (bt 0)))<|af [] [14,15] []<|RD.fin<|aa 1 [] λ _=>RN.draw [17] []<|af [] [0,1,2,8,9,3,10,4,11,5,12,6,13,7,14,15] [.own 0,.own 0,.own 2,.own 2]<|au [] 16 (λ X_=>(dM (ay (⟨(ai t.S (M.set ((ae t.S t.i)+6) 0) t.i).vx,(ai t.S (M.set ((ae t.S t.i)+6) 0) t.i).vy⟩:V2) t.S.g) (⟨i64.wrap (((M.set ((ae t.S t.i)+6) 0).get ((ah t.S t.i)+0))*t.S.push),i64.wrap (((M.set ((ae t.S t.i)+6) 0).get ((ah t.S t.i)+1))*t.S.push)⟩:V2)  _))<|RD.one 17 (RDO.ev [] [.own 0,.own 0] λ _=>?_)
    refine RD.fin<|aa 2 [] λ _=>RN.draw [8] []<|af [] [0,1,2,3,4,5,6] [.own 0,.own 0,.own 2]<|au [] 7 (λ X_=>(eU (ay (ay (⟨(ai t.S (M.set ((ae t.S t.i)+6) 0) t.i).vx,(ai t.S (M.set ((ae t.S t.i)+6) 0) t.i).vy⟩:V2) t.S.g) (⟨i64.wrap (((M.set ((ae t.S t.i)+6) 0).get ((ah t.S t.i)+0))*t.S.push),i64.wrap (((M.set ((ae t.S t.i)+6) 0).get ((ah t.S t.i)+1))*t.S.push)⟩:V2)) (i64.wrap (1024-t.S.drag))  _))<|RD.one 8 (RDO.ev [] [.own 0,.own 0] λ _=>?_)
    refine RD.fin<|aa 2 [] λ _=>RN.draw [] []<|af [] [0,4,1,5,2,6,3,7] (ow 2 17)<|au [] 8 (λ X_=>(cy t.S t.i _ hS.toSetN)) ?_
    have hb10:=cw hS.toSetN t.i
    refine af [] [9] []<|RD.fin<|aa 2 [] λ _=>RN.draw [11] []<|aL [] [0,4,6,1,5,7,2,3,9,10] [.nw,.own 0,.own 2] [bF ((ae t.S t.i)+2)]<|au [] 8 (λ X_=>(cJ ((ar (ay (ay (⟨(ai t.S (M.set ((ae t.S t.i)+6) 0) t.i).vx,(ai t.S (M.set ((ae t.S t.i)+6) 0) t.i).vy⟩:V2) t.S.g) (⟨i64.wrap (((M.set ((ae t.S t.i)+6) 0).get ((ah t.S t.i)+0))*t.S.push),i64.wrap (((M.set ((ae t.S t.i)+6) 0).get ((ah t.S t.i)+1))*t.S.push)⟩:V2)) (i64.wrap (1024-t.S.drag))).x) (-16384) 16384  _))<|RD.one 11 (RDO.ct [] [] [0] (ak ((ae t.S t.i)+2) (az ((ar (ay (ay (⟨(ai t.S (M.set ((ae t.S t.i)+6) 0) t.i).vx,(ai t.S (M.set ((ae t.S t.i)+6) 0) t.i).vy⟩:V2) t.S.g) (⟨i64.wrap (((M.set ((ae t.S t.i)+6) 0).get ((ah t.S t.i)+0))*t.S.push),i64.wrap (((M.set ((ae t.S t.i)+6) 0).get ((ah t.S t.i)+1))*t.S.push)⟩:V2)) (i64.wrap (1024-t.S.drag))).x) (-16384) 16384) C_) ?_)
    rintro _ Pp IF
    refine RD.fin<|aa 1 [] λ _=>RN.draw [11] []<|aL [] [0,4,6,1,5,7,2,3,9,10] [.nw,.own 0,.own 2] [bF ((ae t.S t.i)+3)]<|au [] 8 (λ X_=>(cJ ((ar (ay (ay (⟨(ai t.S (M.set ((ae t.S t.i)+6) 0) t.i).vx,(ai t.S (M.set ((ae t.S t.i)+6) 0) t.i).vy⟩:V2) t.S.g) (⟨i64.wrap (((M.set ((ae t.S t.i)+6) 0).get ((ah t.S t.i)+0))*t.S.push),i64.wrap (((M.set ((ae t.S t.i)+6) 0).get ((ah t.S t.i)+1))*t.S.push)⟩:V2)) (i64.wrap (1024-t.S.drag))).y) (-16384) 16384  _))<|RD.one 11 (RDO.ct [] [] [0] (ak ((ae t.S t.i)+3) (az ((ar (ay (ay (⟨(ai t.S (M.set ((ae t.S t.i)+6) 0) t.i).vx,(ai t.S (M.set ((ae t.S t.i)+6) 0) t.i).vy⟩:V2) t.S.g) (⟨i64.wrap (((M.set ((ae t.S t.i)+6) 0).get ((ah t.S t.i)+0))*t.S.push),i64.wrap (((M.set ((ae t.S t.i)+6) 0).get ((ah t.S t.i)+1))*t.S.push)⟩:V2)) (i64.wrap (1024-t.S.drag))).y) (-16384) 16384) IF) ?_)
    rintro _ Sl P8
    refine RD.fin<|aa 3 [] λ _=>RN.draw [] []<|af [] [0,5,1,6,2,7,3,8,4,9,10,11] [.own 2,.own 2]<|RD.fin<|aa 1 [] λ _=>RN.em (i64.wrap (t.i+1)<(t.S.nb:Int)) 141 (λ Ty=>?_) λ Ty=>?_
    ·refine aa 2 [] λ _=>RN.draw [11] []<|af [] [0,4,1,5,2,6,3,7,8,9,10] [.own 2,.own 2]<|RD.one 11 (RDO.ct [] [] [0] (ak 2 (i64.wrap (t.i+1)) P8) ?_)
     rintro _ Tk RA
     refine RD.fin<|aa 1 [] λ _=>RN.ret [] [2] [0] (v:=.tuple #[]) (H':=(ap [(tb,.lit (Stp.l t mb) 181 (0,0))] [Tk])) ?_
     refine⟨Tk,rfl,?_⟩
     have e:(aM t M)=((((M.set ((ae t.S t.i)+6) 0).set ((ae t.S t.i)+2) (az ((ar (ay (ay (⟨(ai t.S (M.set ((ae t.S t.i)+6) 0) t.i).vx,(ai t.S (M.set ((ae t.S t.i)+6) 0) t.i).vy⟩:V2) t.S.g) (⟨i64.wrap (((M.set ((ae t.S t.i)+6) 0).get ((ah t.S t.i)+0))*t.S.push),i64.wrap (((M.set ((ae t.S t.i)+6) 0).get ((ah t.S t.i)+1))*t.S.push)⟩:V2)) (i64.wrap (1024-t.S.drag))).x) (-16384) 16384)).set ((ae t.S t.i)+3) (az ((ar (ay (ay (⟨(ai t.S (M.set ((ae t.S t.i)+6) 0) t.i).vx,(ai t.S (M.set ((ae t.S t.i)+6) 0) t.i).vy⟩:V2) t.S.g) (⟨i64.wrap (((M.set ((ae t.S t.i)+6) 0).get ((ah t.S t.i)+0))*t.S.push),i64.wrap (((M.set ((ae t.S t.i)+6) 0).get ((ah t.S t.i)+1))*t.S.push)⟩:V2)) (i64.wrap (1024-t.S.drag))).y) (-16384) 16384)).set 2 (i64.wrap (t.i+1))):=by
      first|(simp only[aM,bA,bB,bW,bO,if_pos h2,if_pos h5,if_pos h9,if_pos Ty];try rfl;done)|rfl
     rw[e]
     exact RA.weak (by omega)
    ·refine aa 6 [] λ _=>RN.ct [2] [0] (b9 t 4 1 tb mb (((M.set ((ae t.S t.i)+6) 0).set ((ae t.S t.i)+2) (az ((ar (ay (ay (⟨(ai t.S (M.set ((ae t.S t.i)+6) 0) t.i).vx,(ai t.S (M.set ((ae t.S t.i)+6) 0) t.i).vy⟩:V2) t.S.g) (⟨i64.wrap (((M.set ((ae t.S t.i)+6) 0).get ((ah t.S t.i)+0))*t.S.push),i64.wrap (((M.set ((ae t.S t.i)+6) 0).get ((ah t.S t.i)+1))*t.S.push)⟩:V2)) (i64.wrap (1024-t.S.drag))).x) (-16384) 16384)).set ((ae t.S t.i)+3) (az ((ar (ay (ay (⟨(ai t.S (M.set ((ae t.S t.i)+6) 0) t.i).vx,(ai t.S (M.set ((ae t.S t.i)+6) 0) t.i).vy⟩:V2) t.S.g) (⟨i64.wrap (((M.set ((ae t.S t.i)+6) 0).get ((ah t.S t.i)+0))*t.S.push),i64.wrap (((M.set ((ae t.S t.i)+6) 0).get ((ah t.S t.i)+1))*t.S.push)⟩:V2)) (i64.wrap (1024-t.S.drag))).y) (-16384) 16384)) (k+2) Sl _ P8 hS.up ) ?_
     rintro _ WV Tc
     refine aa 7 [.own 0] λ _=>RN.ct [] [0] (ak 4 0 Tc) ?_
     rintro _ Sj Tb
     refine aa 1 [] λ _=>RN.ret [] [0] [0] (v:=.tuple #[]) (H':=(ap [(tb,.lit (Stp.l t mb) 181 (0,0))] [Sj])) ?_
     refine⟨Sj,rfl,?_⟩
     have e:(aM t M)=((aQ t 4 1 (((M.set ((ae t.S t.i)+6) 0).set ((ae t.S t.i)+2) (az ((ar (ay (ay (⟨(ai t.S (M.set ((ae t.S t.i)+6) 0) t.i).vx,(ai t.S (M.set ((ae t.S t.i)+6) 0) t.i).vy⟩:V2) t.S.g) (⟨i64.wrap (((M.set ((ae t.S t.i)+6) 0).get ((ah t.S t.i)+0))*t.S.push),i64.wrap (((M.set ((ae t.S t.i)+6) 0).get ((ah t.S t.i)+1))*t.S.push)⟩:V2)) (i64.wrap (1024-t.S.drag))).x) (-16384) 16384)).set ((ae t.S t.i)+3) (az ((ar (ay (ay (⟨(ai t.S (M.set ((ae t.S t.i)+6) 0) t.i).vx,(ai t.S (M.set ((ae t.S t.i)+6) 0) t.i).vy⟩:V2) t.S.g) (⟨i64.wrap (((M.set ((ae t.S t.i)+6) 0).get ((ah t.S t.i)+0))*t.S.push),i64.wrap (((M.set ((ae t.S t.i)+6) 0).get ((ah t.S t.i)+1))*t.S.push)⟩:V2)) (i64.wrap (1024-t.S.drag))).y) (-16384) 16384))).set 4 0):=by
      first|(simp only[aM,bA,bB,bW,bO,if_pos h2,if_pos h5,if_pos h9,if_neg Ty];try rfl;done)|rfl
     rw[e]
     exact Tb.weak (by omega)
   ·refine aa 4 [] λ _=>RN.draw [8] []<|af [] [0,1,2,3,4,5,6] [.own 0,.own 0,.own 2]<|au [] 7 (λ X_=>(eU (ay (⟨(ai t.S (M.set ((ae t.S t.i)+6) 0) t.i).vx,(ai t.S (M.set ((ae t.S t.i)+6) 0) t.i).vy⟩:V2) t.S.g) (i64.wrap (1024-t.S.drag))  _))<|RD.one 8 (RDO.ev [] [.own 0,.own 0] λ _=>?_)
    refine RD.fin<|aa 2 [] λ _=>RN.draw [] []<|af [] [0,4,1,5,2,6,3,7] (ow 2 17)<|au [] 8 (λ X_=>(cy t.S t.i _ hS.toSetN)) ?_
    have hb22:=cw hS.toSetN t.i
    refine af [] [9] []<|RD.fin<|aa 2 [] λ _=>RN.draw [11] []<|aL [] [0,4,6,1,5,7,2,3,9,10] [.nw,.own 0,.own 2] [bF ((ae t.S t.i)+2)]<|au [] 8 (λ X_=>(cJ ((ar (ay (⟨(ai t.S (M.set ((ae t.S t.i)+6) 0) t.i).vx,(ai t.S (M.set ((ae t.S t.i)+6) 0) t.i).vy⟩:V2) t.S.g) (i64.wrap (1024-t.S.drag))).x) (-16384) 16384  _))<|RD.one 11 (RDO.ct [] [] [0] (ak ((ae t.S t.i)+2) (az ((ar (ay (⟨(ai t.S (M.set ((ae t.S t.i)+6) 0) t.i).vx,(ai t.S (M.set ((ae t.S t.i)+6) 0) t.i).vy⟩:V2) t.S.g) (i64.wrap (1024-t.S.drag))).x) (-16384) 16384) C_) ?_)
    rintro _ WU S_
    refine RD.fin<|aa 1 [] λ _=>RN.draw [11] []<|aL [] [0,4,6,1,5,7,2,3,9,10] [.nw,.own 0,.own 2] [bF ((ae t.S t.i)+3)]<|au [] 8 (λ X_=>(cJ ((ar (ay (⟨(ai t.S (M.set ((ae t.S t.i)+6) 0) t.i).vx,(ai t.S (M.set ((ae t.S t.i)+6) 0) t.i).vy⟩:V2) t.S.g) (i64.wrap (1024-t.S.drag))).y) (-16384) 16384  _))<|RD.one 11 (RDO.ct [] [] [0] (ak ((ae t.S t.i)+3) (az ((ar (ay (⟨(ai t.S (M.set ((ae t.S t.i)+6) 0) t.i).vx,(ai t.S (M.set ((ae t.S t.i)+6) 0) t.i).vy⟩:V2) t.S.g) (i64.wrap (1024-t.S.drag))).y) (-16384) 16384) S_) ?_)
    rintro _ WT Um
    refine RD.fin<|aa 3 [] λ _=>RN.draw [] []<|af [] [0,5,1,6,2,7,3,8,4,9,10,11] [.own 2,.own 2]<|RD.fin<|aa 1 [] λ _=>RN.em (i64.wrap (t.i+1)<(t.S.nb:Int)) 141 (λ h27=>?_) λ h27=>?_
    ·refine aa 2 [] λ _=>RN.draw [11] []<|af [] [0,4,1,5,2,6,3,7,8,9,10] [.own 2,.own 2]<|RD.one 11 (RDO.ct [] [] [0] (ak 2 (i64.wrap (t.i+1)) Um) ?_)
     rintro _ Yo Wd
     refine RD.fin<|aa 1 [] λ _=>RN.ret [] [2] [0] (v:=.tuple #[]) (H':=(ap [(tb,.lit (Stp.l t mb) 181 (0,0))] [Yo])) ?_
     refine⟨Yo,rfl,?_⟩
     have e:(aM t M)=((((M.set ((ae t.S t.i)+6) 0).set ((ae t.S t.i)+2) (az ((ar (ay (⟨(ai t.S (M.set ((ae t.S t.i)+6) 0) t.i).vx,(ai t.S (M.set ((ae t.S t.i)+6) 0) t.i).vy⟩:V2) t.S.g) (i64.wrap (1024-t.S.drag))).x) (-16384) 16384)).set ((ae t.S t.i)+3) (az ((ar (ay (⟨(ai t.S (M.set ((ae t.S t.i)+6) 0) t.i).vx,(ai t.S (M.set ((ae t.S t.i)+6) 0) t.i).vy⟩:V2) t.S.g) (i64.wrap (1024-t.S.drag))).y) (-16384) 16384)).set 2 (i64.wrap (t.i+1))):=by
      first|(simp only[aM,bA,bB,bW,bO,if_pos h2,if_pos h5,if_neg h9,if_pos h27];try rfl;done)|rfl
     rw[e]
     exact Wd.weak (by omega)
    ·refine aa 6 [] λ _=>RN.ct [2] [0] (b9 t 4 1 tb mb (((M.set ((ae t.S t.i)+6) 0).set ((ae t.S t.i)+2) (az ((ar (ay (⟨(ai t.S (M.set ((ae t.S t.i)+6) 0) t.i).vx,(ai t.S (M.set ((ae t.S t.i)+6) 0) t.i).vy⟩:V2) t.S.g) (i64.wrap (1024-t.S.drag))).x) (-16384) 16384)).set ((ae t.S t.i)+3) (az ((ar (ay (⟨(ai t.S (M.set ((ae t.S t.i)+6) 0) t.i).vx,(ai t.S (M.set ((ae t.S t.i)+6) 0) t.i).vy⟩:V2) t.S.g) (i64.wrap (1024-t.S.drag))).y) (-16384) 16384)) (k+2) WT _ Um hS.up ) ?_
     rintro _ WQ hM31
     refine aa 7 [.own 0] λ _=>RN.ct [] [0] (ak 4 0 hM31) ?_
     rintro _ U8 R6
     refine aa 1 [] λ _=>RN.ret [] [0] [0] (v:=.tuple #[]) (H':=(ap [(tb,.lit (Stp.l t mb) 181 (0,0))] [U8])) ?_
     refine⟨U8,rfl,?_⟩
     have e:(aM t M)=((aQ t 4 1 (((M.set ((ae t.S t.i)+6) 0).set ((ae t.S t.i)+2) (az ((ar (ay (⟨(ai t.S (M.set ((ae t.S t.i)+6) 0) t.i).vx,(ai t.S (M.set ((ae t.S t.i)+6) 0) t.i).vy⟩:V2) t.S.g) (i64.wrap (1024-t.S.drag))).x) (-16384) 16384)).set ((ae t.S t.i)+3) (az ((ar (ay (⟨(ai t.S (M.set ((ae t.S t.i)+6) 0) t.i).vx,(ai t.S (M.set ((ae t.S t.i)+6) 0) t.i).vy⟩:V2) t.S.g) (i64.wrap (1024-t.S.drag))).y) (-16384) 16384))).set 4 0):=by
      first|(simp only[aM,bA,bB,bW,bO,if_pos h2,if_pos h5,if_neg h9,if_neg h27];try rfl;done)|rfl
     rw[e]
     exact R6.weak (by omega)
  ·refine aa 5 [] λ _=>RN.draw [] []<|af [] [0,5,1,6,2,7,3,8,4,9,10,11] [.own 0,.own 0]<|RD.fin<|aa 1 [] λ _=>RN.em (i64.wrap (t.i+1)<(t.S.nb:Int)) 141 (λ Uu=>?_) λ Uu=>?_
   ·refine aa 2 [] λ _=>RN.draw [11] []<|af [] [0,4,1,5,2,6,3,7,8,9,10] [.own 0,.own 0]<|RD.one 11 (RDO.ct [] [] [0] (ak 2 (i64.wrap (t.i+1)) C_) ?_)
    rintro _ WO S8
    refine RD.fin<|aa 1 [] λ _=>RN.ret [] [0] [0] (v:=.tuple #[]) (H':=(ap [(tb,.lit (Stp.l t mb) 181 (0,0))] [WO])) ?_
    refine⟨WO,rfl,?_⟩
    have e:(aM t M)=((M.set ((ae t.S t.i)+6) 0).set 2 (i64.wrap (t.i+1))):=by
     first|(simp only[aM,bA,bB,bW,bO,if_pos h2,if_neg h5,if_pos Uu];try rfl;done)|rfl
    rw[e]
    exact S8.weak (by omega)
   ·refine aa 6 [] λ _=>RN.ct [0] [0] (b9 t 4 1 tb mb (M.set ((ae t.S t.i)+6) 0) (k+4) T3 _ C_ hS.up ) ?_
    rintro _ T37 S7
    refine aa 7 [.own 0] λ _=>RN.ct [] [0] (ak 4 0 S7) ?_
    rintro _ Uy QO
    refine aa 1 [] λ _=>RN.ret [] [0] [0] (v:=.tuple #[]) (H':=(ap [(tb,.lit (Stp.l t mb) 181 (0,0))] [Uy])) ?_
    refine⟨Uy,rfl,?_⟩
    have e:(aM t M)=((aQ t 4 1 (M.set ((ae t.S t.i)+6) 0)).set 4 0):=by
     first|(simp only[aM,bA,bB,bW,bO,if_pos h2,if_neg h5,if_neg Uu];try rfl;done)|rfl
    rw[e]
    exact QO.weak (by omega)
 ·refine aa 11 [.own 0] λ _=>al (iP t t.i tb mb _ (aC 0) hS.up)<|aa 2 [] λ _=>RN.em (movP t.S t.i) 32 (λ P9=>?_) λ P9=>?_
  ·have:=movP.has P9
   refine aa 8 [.own 0] λ _=>al (fH t t.i tb mb M _ T _ (aC 0) hS.up hM (aS 0) (movP.has P9))<|aa 5 (ow 0 5) λ n42=>RN.draw [9] []<|af [] [0,2,1,3,4,5,6] [.own 0,.own 0,.own 1,.own 1]<|au [] 7 (λ X_=>(dM (⟨(ai t.S M t.i).vx,(ai t.S M t.i).vy⟩:V2) t.S.g  _))<|RD.one 8 (RDO.ev [] [] λ n43=>?_)
   refine RD.one 9 (RDO.ev [] [.own 0,.own 0] λ _=>?_)
   refine RD.fin<|aa 3 [] λ _=>RN.draw [] []<|af [] [0,4,1,5,2,6,3,7] (ow 2 17)<|au [] 8 (λ X_=>(gi t.S t.i _ hS.toSetN)) ?_
   have hb44:=gh hS.toSetN t.i
   refine af [] [9] []<|RD.fin<|aa 7 [] λ _=>RN.em (ah t.S t.i >= 0) 57 (λ Yb=>?_) λ Yb=>?_
   ·refine aa 2 [] λ _=>RN.draw [] []<|aL [] [0,4,7,11,1,5,8,12,2,9,3,10] [.nw,.nw,.own 2,.own 2] [bF ((ah t.S t.i)+1),bF ((ah t.S t.i)+0)]<|au [] 6 (λ X_=>(aB ((ah t.S t.i)+0) hM (bt 0)))<|au [] 13 (λ X_=>(aB ((ah t.S t.i)+1) hM (bt 0)))<|af [] [14,15] []<|RD.fin<|aa 1 [] λ _=>RN.draw [17] []<|af [] [0,1,2,8,9,3,10,4,11,5,12,6,13,7,14,15] [.own 0,.own 0,.own 2,.own 2]<|au [] 16 (λ X_=>(dM (ay (⟨(ai t.S M t.i).vx,(ai t.S M t.i).vy⟩:V2) t.S.g) (⟨i64.wrap ((M.get ((ah t.S t.i)+0))*t.S.push),i64.wrap ((M.get ((ah t.S t.i)+1))*t.S.push)⟩:V2)  _))<|RD.one 17 (RDO.ev [] [.own 0,.own 0] λ _=>?_)
    refine RD.fin<|aa 2 [] λ _=>RN.draw [8] []<|af [] [0,1,2,3,4,5,6] [.own 0,.own 0,.own 2]<|au [] 7 (λ X_=>(eU (ay (ay (⟨(ai t.S M t.i).vx,(ai t.S M t.i).vy⟩:V2) t.S.g) (⟨i64.wrap ((M.get ((ah t.S t.i)+0))*t.S.push),i64.wrap ((M.get ((ah t.S t.i)+1))*t.S.push)⟩:V2)) (i64.wrap (1024-t.S.drag))  _))<|RD.one 8 (RDO.ev [] [.own 0,.own 0] λ _=>?_)
    refine RD.fin<|aa 2 [] λ _=>RN.draw [] []<|af [] [0,4,1,5,2,6,3,7] (ow 2 17)<|au [] 8 (λ X_=>(cy t.S t.i _ hS.toSetN)) ?_
    have hb46:=cw hS.toSetN t.i
    refine af [] [9] []<|RD.fin<|aa 2 [] λ _=>RN.draw [11] []<|aL [] [0,4,6,1,5,7,2,3,9,10] [.nw,.own 0,.own 2] [bF ((ae t.S t.i)+2)]<|au [] 8 (λ X_=>(cJ ((ar (ay (ay (⟨(ai t.S M t.i).vx,(ai t.S M t.i).vy⟩:V2) t.S.g) (⟨i64.wrap ((M.get ((ah t.S t.i)+0))*t.S.push),i64.wrap ((M.get ((ah t.S t.i)+1))*t.S.push)⟩:V2)) (i64.wrap (1024-t.S.drag))).x) (-16384) 16384  _))<|RD.one 11 (RDO.ct [] [] [0] (ak ((ae t.S t.i)+2) (az ((ar (ay (ay (⟨(ai t.S M t.i).vx,(ai t.S M t.i).vy⟩:V2) t.S.g) (⟨i64.wrap ((M.get ((ah t.S t.i)+0))*t.S.push),i64.wrap ((M.get ((ah t.S t.i)+1))*t.S.push)⟩:V2)) (i64.wrap (1024-t.S.drag))).x) (-16384) 16384) hM) ?_)
    rintro _ T47 Wc
    refine RD.fin<|aa 1 [] λ _=>RN.draw [11] []<|aL [] [0,4,6,1,5,7,2,3,9,10] [.nw,.own 0,.own 2] [bF ((ae t.S t.i)+3)]<|au [] 8 (λ X_=>(cJ ((ar (ay (ay (⟨(ai t.S M t.i).vx,(ai t.S M t.i).vy⟩:V2) t.S.g) (⟨i64.wrap ((M.get ((ah t.S t.i)+0))*t.S.push),i64.wrap ((M.get ((ah t.S t.i)+1))*t.S.push)⟩:V2)) (i64.wrap (1024-t.S.drag))).y) (-16384) 16384  _))<|RD.one 11 (RDO.ct [] [] [0] (ak ((ae t.S t.i)+3) (az ((ar (ay (ay (⟨(ai t.S M t.i).vx,(ai t.S M t.i).vy⟩:V2) t.S.g) (⟨i64.wrap ((M.get ((ah t.S t.i)+0))*t.S.push),i64.wrap ((M.get ((ah t.S t.i)+1))*t.S.push)⟩:V2)) (i64.wrap (1024-t.S.drag))).y) (-16384) 16384) Wc) ?_)
    rintro _ Ux QN
    refine RD.fin<|aa 3 [] λ _=>RN.draw [] []<|af [] [0,5,1,6,2,7,3,8,4,9,10,11] [.own 2,.own 2]<|RD.fin<|aa 1 [] λ _=>RN.em (i64.wrap (t.i+1)<(t.S.nb:Int)) 141 (λ R9=>?_) λ R9=>?_
    ·refine aa 2 [] λ _=>RN.draw [11] []<|af [] [0,4,1,5,2,6,3,7,8,9,10] [.own 2,.own 2]<|RD.one 11 (RDO.ct [] [] [0] (ak 2 (i64.wrap (t.i+1)) QN) ?_)
     rintro _ U6 S4
     refine RD.fin<|aa 1 [] λ _=>RN.ret [] [2] [0] (v:=.tuple #[]) (H':=(ap [(tb,.lit (Stp.l t mb) 181 (0,0))] [U6])) ?_
     refine⟨U6,rfl,?_⟩
     have e:(aM t M)=(((M.set ((ae t.S t.i)+2) (az ((ar (ay (ay (⟨(ai t.S M t.i).vx,(ai t.S M t.i).vy⟩:V2) t.S.g) (⟨i64.wrap ((M.get ((ah t.S t.i)+0))*t.S.push),i64.wrap ((M.get ((ah t.S t.i)+1))*t.S.push)⟩:V2)) (i64.wrap (1024-t.S.drag))).x) (-16384) 16384)).set ((ae t.S t.i)+3) (az ((ar (ay (ay (⟨(ai t.S M t.i).vx,(ai t.S M t.i).vy⟩:V2) t.S.g) (⟨i64.wrap ((M.get ((ah t.S t.i)+0))*t.S.push),i64.wrap ((M.get ((ah t.S t.i)+1))*t.S.push)⟩:V2)) (i64.wrap (1024-t.S.drag))).y) (-16384) 16384)).set 2 (i64.wrap (t.i+1))):=by
      first|(simp only[aM,bA,bB,bW,bO,if_neg h2,if_pos P9,if_pos Yb,if_pos R9];try rfl;done)|rfl
     rw[e]
     exact S4.weak (by omega)
    ·refine aa 6 [] λ _=>RN.ct [2] [0] (b9 t 4 1 tb mb ((M.set ((ae t.S t.i)+2) (az ((ar (ay (ay (⟨(ai t.S M t.i).vx,(ai t.S M t.i).vy⟩:V2) t.S.g) (⟨i64.wrap ((M.get ((ah t.S t.i)+0))*t.S.push),i64.wrap ((M.get ((ah t.S t.i)+1))*t.S.push)⟩:V2)) (i64.wrap (1024-t.S.drag))).x) (-16384) 16384)).set ((ae t.S t.i)+3) (az ((ar (ay (ay (⟨(ai t.S M t.i).vx,(ai t.S M t.i).vy⟩:V2) t.S.g) (⟨i64.wrap ((M.get ((ah t.S t.i)+0))*t.S.push),i64.wrap ((M.get ((ah t.S t.i)+1))*t.S.push)⟩:V2)) (i64.wrap (1024-t.S.drag))).y) (-16384) 16384)) (k+3) Ux _ QN hS.up ) ?_
     rintro _ Yl S3
     refine aa 7 [.own 0] λ _=>RN.ct [] [0] (ak 4 0 S3) ?_
     rintro _ Yk Uk
     refine aa 1 [] λ _=>RN.ret [] [0] [0] (v:=.tuple #[]) (H':=(ap [(tb,.lit (Stp.l t mb) 181 (0,0))] [Yk])) ?_
     refine⟨Yk,rfl,?_⟩
     have e:(aM t M)=((aQ t 4 1 ((M.set ((ae t.S t.i)+2) (az ((ar (ay (ay (⟨(ai t.S M t.i).vx,(ai t.S M t.i).vy⟩:V2) t.S.g) (⟨i64.wrap ((M.get ((ah t.S t.i)+0))*t.S.push),i64.wrap ((M.get ((ah t.S t.i)+1))*t.S.push)⟩:V2)) (i64.wrap (1024-t.S.drag))).x) (-16384) 16384)).set ((ae t.S t.i)+3) (az ((ar (ay (ay (⟨(ai t.S M t.i).vx,(ai t.S M t.i).vy⟩:V2) t.S.g) (⟨i64.wrap ((M.get ((ah t.S t.i)+0))*t.S.push),i64.wrap ((M.get ((ah t.S t.i)+1))*t.S.push)⟩:V2)) (i64.wrap (1024-t.S.drag))).y) (-16384) 16384))).set 4 0):=by
      first|(simp only[aM,bA,bB,bW,bO,if_neg h2,if_pos P9,if_pos Yb,if_neg R9];try rfl;done)|rfl
     rw[e]
     exact Uk.weak (by omega)
   ·refine aa 4 [] λ _=>RN.draw [8] []<|af [] [0,1,2,3,4,5,6] [.own 0,.own 0,.own 2]<|au [] 7 (λ X_=>(eU (ay (⟨(ai t.S M t.i).vx,(ai t.S M t.i).vy⟩:V2) t.S.g) (i64.wrap (1024-t.S.drag))  _))<|RD.one 8 (RDO.ev [] [.own 0,.own 0] λ _=>?_)
    refine RD.fin<|aa 2 [] λ _=>RN.draw [] []<|af [] [0,4,1,5,2,6,3,7] (ow 2 17)<|au [] 8 (λ X_=>(cy t.S t.i _ hS.toSetN)) ?_
    have hb58:=cw hS.toSetN t.i
    refine af [] [9] []<|RD.fin<|aa 2 [] λ _=>RN.draw [11] []<|aL [] [0,4,6,1,5,7,2,3,9,10] [.nw,.own 0,.own 2] [bF ((ae t.S t.i)+2)]<|au [] 8 (λ X_=>(cJ ((ar (ay (⟨(ai t.S M t.i).vx,(ai t.S M t.i).vy⟩:V2) t.S.g) (i64.wrap (1024-t.S.drag))).x) (-16384) 16384  _))<|RD.one 11 (RDO.ct [] [] [0] (ak ((ae t.S t.i)+2) (az ((ar (ay (⟨(ai t.S M t.i).vx,(ai t.S M t.i).vy⟩:V2) t.S.g) (i64.wrap (1024-t.S.drag))).x) (-16384) 16384) hM) ?_)
    rintro _ T59 Wb
    refine RD.fin<|aa 1 [] λ _=>RN.draw [11] []<|aL [] [0,4,6,1,5,7,2,3,9,10] [.nw,.own 0,.own 2] [bF ((ae t.S t.i)+3)]<|au [] 8 (λ X_=>(cJ ((ar (ay (⟨(ai t.S M t.i).vx,(ai t.S M t.i).vy⟩:V2) t.S.g) (i64.wrap (1024-t.S.drag))).y) (-16384) 16384  _))<|RD.one 11 (RDO.ct [] [] [0] (ak ((ae t.S t.i)+3) (az ((ar (ay (⟨(ai t.S M t.i).vx,(ai t.S M t.i).vy⟩:V2) t.S.g) (i64.wrap (1024-t.S.drag))).y) (-16384) 16384) Wb) ?_)
    rintro _ T61 X5
    refine RD.fin<|aa 3 [] λ _=>RN.draw [] []<|af [] [0,5,1,6,2,7,3,8,4,9,10,11] [.own 2,.own 2]<|RD.fin<|aa 1 [] λ _=>RN.em (i64.wrap (t.i+1)<(t.S.nb:Int)) 141 (λ h63=>?_) λ h63=>?_
    ·refine aa 2 [] λ _=>RN.draw [11] []<|af [] [0,4,1,5,2,6,3,7,8,9,10] [.own 2,.own 2]<|RD.one 11 (RDO.ct [] [] [0] (ak 2 (i64.wrap (t.i+1)) X5) ?_)
     rintro _ T64 hM65
     refine RD.fin<|aa 1 [] λ _=>RN.ret [] [2] [0] (v:=.tuple #[]) (H':=(ap [(tb,.lit (Stp.l t mb) 181 (0,0))] [T64])) ?_
     refine⟨T64,rfl,?_⟩
     have e:(aM t M)=(((M.set ((ae t.S t.i)+2) (az ((ar (ay (⟨(ai t.S M t.i).vx,(ai t.S M t.i).vy⟩:V2) t.S.g) (i64.wrap (1024-t.S.drag))).x) (-16384) 16384)).set ((ae t.S t.i)+3) (az ((ar (ay (⟨(ai t.S M t.i).vx,(ai t.S M t.i).vy⟩:V2) t.S.g) (i64.wrap (1024-t.S.drag))).y) (-16384) 16384)).set 2 (i64.wrap (t.i+1))):=by
      first|(simp only[aM,bA,bB,bW,bO,if_neg h2,if_pos P9,if_neg Yb,if_pos h63];try rfl;done)|rfl
     rw[e]
     exact hM65.weak (by omega)
    ·refine aa 6 [] λ _=>RN.ct [2] [0] (b9 t 4 1 tb mb ((M.set ((ae t.S t.i)+2) (az ((ar (ay (⟨(ai t.S M t.i).vx,(ai t.S M t.i).vy⟩:V2) t.S.g) (i64.wrap (1024-t.S.drag))).x) (-16384) 16384)).set ((ae t.S t.i)+3) (az ((ar (ay (⟨(ai t.S M t.i).vx,(ai t.S M t.i).vy⟩:V2) t.S.g) (i64.wrap (1024-t.S.drag))).y) (-16384) 16384)) (k+3) T61 _ X5 hS.up ) ?_
     rintro _ T66 hM67
     refine aa 7 [.own 0] λ _=>RN.ct [] [0] (ak 4 0 hM67) ?_
     rintro _ T68 hM69
     refine aa 1 [] λ _=>RN.ret [] [0] [0] (v:=.tuple #[]) (H':=(ap [(tb,.lit (Stp.l t mb) 181 (0,0))] [T68])) ?_
     refine⟨T68,rfl,?_⟩
     have e:(aM t M)=((aQ t 4 1 ((M.set ((ae t.S t.i)+2) (az ((ar (ay (⟨(ai t.S M t.i).vx,(ai t.S M t.i).vy⟩:V2) t.S.g) (i64.wrap (1024-t.S.drag))).x) (-16384) 16384)).set ((ae t.S t.i)+3) (az ((ar (ay (⟨(ai t.S M t.i).vx,(ai t.S M t.i).vy⟩:V2) t.S.g) (i64.wrap (1024-t.S.drag))).y) (-16384) 16384))).set 4 0):=by
      first|(simp only[aM,bA,bB,bW,bO,if_neg h2,if_pos P9,if_neg Yb,if_neg h63];try rfl;done)|rfl
     rw[e]
     exact hM69.weak (by omega)
  ·refine aa 5 [] λ _=>RN.draw [] []<|af [] [0,5,1,6,2,7,3,8,4,9,10,11] [.own 0,.own 0]<|RD.fin<|aa 1 [] λ _=>RN.em (i64.wrap (t.i+1)<(t.S.nb:Int)) 141 (λ h70=>?_) λ h70=>?_
   ·refine aa 2 [] λ _=>RN.draw [11] []<|af [] [0,4,1,5,2,6,3,7,8,9,10] [.own 0,.own 0]<|RD.one 11 (RDO.ct [] [] [0] (ak 2 (i64.wrap (t.i+1)) hM) ?_)
    rintro _ T71 hM72
    refine RD.fin<|aa 1 [] λ _=>RN.ret [] [0] [0] (v:=.tuple #[]) (H':=(ap [(tb,.lit (Stp.l t mb) 181 (0,0))] [T71])) ?_
    refine⟨T71,rfl,?_⟩
    have e:(aM t M)=(M.set 2 (i64.wrap (t.i+1))):=by
     first|(simp only[aM,bA,bB,bW,bO,if_neg h2,if_neg P9,if_pos h70];try rfl;done)|rfl
    rw[e]
    exact hM72.weak (by omega)
   ·refine aa 6 [] λ _=>RN.ct [0] [0] (b9 t 4 1 tb mb M (k+5) T _ hM hS.up ) ?_
    rintro _ T73 hM74
    refine aa 7 [.own 0] λ _=>RN.ct [] [0] (ak 4 0 hM74) ?_
    rintro _ T75 hM76
    refine aa 1 [] λ _=>RN.ret [] [0] [0] (v:=.tuple #[]) (H':=(ap [(tb,.lit (Stp.l t mb) 181 (0,0))] [T75])) ?_
    refine⟨T75,rfl,?_⟩
    have e:(aM t M)=((aQ t 4 1 M).set 4 0):=by
     first|(simp only[aM,bA,bB,bW,bO,if_neg h2,if_neg P9,if_neg h70];try rfl;done)|rfl
    rw[e]
    exact hM76.weak (by omega)
theorem xB(t:Stp)  (tb mb:Nat) (M:MemS) (k:Nat) (T F:HL) (hM:MemH mb M (k+4) T) (hS:SetIn F t.S) (hi:movP t.S t.i):Sp Tryz.prog 130 #[vP tb 0] (ap [(tb,.lit (Stp.l t mb) 181 (0,0))] [T]) F (λ u H'=>∃x,H'=ap [(tb,.lit (Stp.l t mb) 181 (0,0))] [x] /\ (MemH mb (bI t M) k x)):=by
 have hp:=hS.pl
 have hn:=hS.nb
 have hr:=hS.room
 refine Sp.run Tryz.func130 rfl (mc hS.blk mn) (A:=[(tb,.lit (Stp.l t mb) 181 (0,0))]) (Ts:=[T]) rfl λ w0=>?_
 refine aa 7 [.own 0] λ _=>al (fH t t.i tb mb M _ T _ (aC 0) hS.up hM (aS 0) (movP.has hi))<|aa 10 (ow 0 5++[.own 1]) λ n1=>al (aB 5 hM (aS 0))<|aa 6 [] λ _=>RN.draw [8] []<|af [] [0,2,4,1,3] [.own 0,.own 0,.own 0,.own 0]<|au [] 5 (λ X_=>(iM (⟨(ai t.S M t.i).vx,(ai t.S M t.i).vy⟩:V2) (if i64.wrap ((M.get 5)+128)<1024 then i64.wrap ((M.get 5)+128) else 1024) 1024  _))<|au [] 6 (λ X_=>(dM (⟨(ai t.S M t.i).px,(ai t.S M t.i).py⟩:V2) (aY (⟨(ai t.S M t.i).vx,(ai t.S M t.i).vy⟩:V2) (if i64.wrap ((M.get 5)+128)<1024 then i64.wrap ((M.get 5)+128) else 1024) 1024)  _))<|RD.one 7 (RDO.ev [] [] λ n2=>?_)
 refine RD.one 8 (RDO.ev [] [.own 0,.own 0] λ _=>?_)
 refine RD.fin<|aa 2 [] λ _=>RN.draw [16] []<|af [] [0,4,9,1,5,10,2,6,11,3,7,12,13] (ow 2 21)<|au [] 8 (λ X_=>(cy t.S t.i _ hS.toSetN)) ?_
 have YU:=cw hS.toSetN t.i
 refine RD.one 14 (RDO.ev [] [] λ n4=>?_)
 refine af [] [15] []<|RD.one 16 (RDO.ev [] [.own 0,.own 0,.own 0,.own 0] λ _=>?_)
 refine RD.fin<|aq 14 [.nw,.nw,.own 1,.own 0,.own 0] [bF ((ae t.S t.i)+2),bF ((ae t.S t.i)+0)] λ _=>RN.ct [3] [0] (rH t ((ae t.S t.i)+0) ((ae t.S t.i)+2) ((ay (⟨(ai t.S M t.i).px,(ai t.S M t.i).py⟩:V2) (aY (⟨(ai t.S M t.i).vx,(ai t.S M t.i).vy⟩:V2) (if i64.wrap ((M.get 5)+128)<1024 then i64.wrap ((M.get 5)+128) else 1024) 1024)).x) t.S.box.x0 t.S.box.x1 tb mb M (k+2) T _ hM hS.up ) ?_
 rintro _ T5 P5
 refine aq 14 [.nw,.nw,.own 2,.own 1,.own 1] [bF ((ae t.S t.i)+3),bF ((ae t.S t.i)+1)] λ _=>RN.ct [0] [0] (rH t ((ae t.S t.i)+1) ((ae t.S t.i)+3) ((ay (⟨(ai t.S M t.i).px,(ai t.S M t.i).py⟩:V2) (aY (⟨(ai t.S M t.i).vx,(ai t.S M t.i).vy⟩:V2) (if i64.wrap ((M.get 5)+128)<1024 then i64.wrap ((M.get 5)+128) else 1024) 1024)).y) t.S.box.y0 t.S.box.y1 tb mb (b7 t ((ae t.S t.i)+0) ((ae t.S t.i)+2) ((ay (⟨(ai t.S M t.i).px,(ai t.S M t.i).py⟩:V2) (aY (⟨(ai t.S M t.i).vx,(ai t.S M t.i).vy⟩:V2) (if i64.wrap ((M.get 5)+128)<1024 then i64.wrap ((M.get 5)+128) else 1024) 1024)).x) t.S.box.x0 t.S.box.x1 M) k T5 _ P5 hS.up ) ?_
 rintro _ T7 P4
 refine aa 1 [] λ _=>RN.ret [] [0] [0] (v:=.tuple #[]) (H':=(ap [(tb,.lit (Stp.l t mb) 181 (0,0))] [T7])) ?_
 refine⟨T7,rfl,?_⟩
 have e:(bI t M)=(b7 t ((ae t.S t.i)+1) ((ae t.S t.i)+3) ((ay (⟨(ai t.S M t.i).px,(ai t.S M t.i).py⟩:V2) (aY (⟨(ai t.S M t.i).vx,(ai t.S M t.i).vy⟩:V2) (if i64.wrap ((M.get 5)+128)<1024 then i64.wrap ((M.get 5)+128) else 1024) 1024)).y) t.S.box.y0 t.S.box.y1 (b7 t ((ae t.S t.i)+0) ((ae t.S t.i)+2) ((ay (⟨(ai t.S M t.i).px,(ai t.S M t.i).py⟩:V2) (aY (⟨(ai t.S M t.i).vx,(ai t.S M t.i).vy⟩:V2) (if i64.wrap ((M.get 5)+128)<1024 then i64.wrap ((M.get 5)+128) else 1024) 1024)).x) t.S.box.x0 t.S.box.x1 M)):=by
  first|(simp only[bI,eC,iQ,if_pos hi];try rfl;done)|rfl
 rw[e]
 exact P4.weak (by omega)
end Go.Proofs.YthoijjeddhfcnaaGreatDoor
