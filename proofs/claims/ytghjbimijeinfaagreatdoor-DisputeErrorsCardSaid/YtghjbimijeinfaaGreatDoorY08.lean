import Derived.Test.YtghjbimijeinfaaGreatDoorY07
set_option maxHeartbeats 4000000
set_option maxRecDepth 100000
set_option linter.unusedSimpArgs false
set_option linter.unusedVariables false
namespace Go.Proofs.YtghjbimijeinfaaGreatDoor
open Go.RowKit
def fB (t:Stp):Bool:=if aY (t.i+1) < t.S.nb then t.ended else true
def fU (t:Stp) (M:MemS):MemS:=if af t.S t.i >= 0 then M.set (af t.S t.i+7) (if M.get (af t.S t.i+2)=0 then if M.get (af t.S t.i+3)=0 then (if 1000 < aY (M.get (af t.S t.i+7)+1) then 1000 else aY (M.get (af t.S t.i+7)+1)) else 0 else 0) else M
def cE (M:MemS):Nat -> MemS
 | 0=>M
 | n+1=>(cE M n).set ((n+1:Nat):Int) 0
def gK (t:Stp) (M:MemS):MemS:=if aY (t.i+1) < t.S.nb then M.set 2 (aY (t.i+1)) else cE (M.set 0 (aY (M.get 0+1))) 10
def dp (t:Stp) (M:MemS):MemS:=gK t (fU t M)
def bV (t:Stp) (M:MemS):V2:=ao (if ah t.S t.i >= 0 then aC (aC ⟨(aq t.S M t.i).vx,(aq t.S M t.i).vy⟩ t.S.g) ⟨aY (M.get (ah t.S t.i+0) * t.S.push),aY (M.get (ah t.S t.i+1) * t.S.push)⟩ else aC ⟨(aq t.S M t.i).vx,(aq t.S M t.i).vy⟩ t.S.g) (aY (1024 - t.S.drag))
def bE (t:Stp) (M:MemS):MemS:=if af t.S t.i >= 0 then M.set (af t.S t.i+6) 0 else M
def bI (t:Stp) (M:MemS):MemS:=if movP t.S t.i then (M.set (af t.S t.i+2) (aF (bV t M).x (-16384) 16384)).set (af t.S t.i+3) (aF (bV t M).y (-16384) 16384) else M
def bW (t:Stp) (M:MemS):MemS:=if aY (t.i+1) < t.S.nb then M.set 2 (aY (t.i+1)) else (aM t 4 1 M).set 4 0
def aQ (t:Stp) (M:MemS):MemS:=bW t (bI t (bE t M))
def lh (M:MemS):Int:=if aY (M.get 5+128) < 1024 then aY (M.get 5+128) else 1024
def gc (t:Stp) (M:MemS):V2:=aC ⟨(aq t.S M t.i).px,(aq t.S M t.i).py⟩ (ep ⟨(aq t.S M t.i).vx,(aq t.S M t.i).vy⟩ (lh M) 1024)
def cZ (t:Stp) (M:MemS):MemS:=dU t (af t.S t.i+1) (af t.S t.i+3) (gc t M).y t.S.box.y0 t.S.box.y1 (dU t (af t.S t.i+0) (af t.S t.i+2) (gc t M).x t.S.box.x0 t.S.box.x1 M)
theorem Bh (t:Stp)  (tb mb:Nat) (M:MemS) (k:Nat) (T F:HL) (hM:MemH mb M (k+8) T) (hS:SetIn F t.S) :Sp Tryz.prog 52 #[vP tb 0] (ap [(tb,.lit (Stp.l t mb) 140 (0,0))] [T]) F (λ u H'=>∃ x,H'=ap [(tb,.lit (Stp.l t mb) 140 (0,0))] [x] /\ (MemH mb (aQ t M) k x)):=by
 have hp:=hS.pl
 have hn:=hS.nb
 have hr:=hS.room
 refine Sp.run Tryz.func52 rfl (mc hS.blk mn) (A:=[(tb,.lit (Stp.l t mb) 140 (0,0))]) (Ts:=[T]) rfl λ w0=>?_
 refine ae 2 [] λ _=>RN.draw [] []<|ag [] [0,4,1,5,2,6,3,7] (ow 0 17)<|ar [] 8 (λ X_=>(bS t.S t.i _ hS.toSetN)) ?_
 have hb1:=cB hS.toSetN t.i
 refine ag [] [9] []<|RD.fin<|ae 7 [] λ _=>RN.em (af t.S t.i >= 0) 19 (λ h2=>?_) λ h2=>?_
 ·refine al 8 [.own 0,.nw] [br ((af t.S t.i)+6)] λ _=>RN.ct [] [0] (ai ((af t.S t.i)+6) 0 hM) ?_
  rintro _ T3 hM4
  refine ae 10 [.own 0] λ _=>aj (iT t t.i tb mb _ (aB 0) hS.up)<|ae 2 [] λ _=>RN.em (movP t.S t.i) 32 (λ h5=>?_) λ h5=>?_
  ·have:=movP.has h5
   refine ae 8 [.own 0] λ _=>aj (fq t t.i tb mb (M.set ((af t.S t.i)+6) 0) _ T3 _ (aB 0) hS.up hM4 (aA 0) (movP.has h5))<|ae 5 (ow 0 5) λ n6=>RN.draw [9] []<|ag [] [0,2,1,3,4,5,6] [.own 0,.own 0,.own 1,.own 1]<|ar [] 7 (λ X_=>(dT (⟨(aq t.S (M.set ((af t.S t.i)+6) 0) t.i).vx,(aq t.S (M.set ((af t.S t.i)+6) 0) t.i).vy⟩:V2) t.S.g  _))<|RD.one 8 (RDO.ev [] [] λ n7=>?_)
   refine RD.one 9 (RDO.ev [] [.own 0,.own 0] λ _=>?_)
   refine RD.fin<|ae 3 [] λ _=>RN.draw [] []<|ag [] [0,4,1,5,2,6,3,7] (ow 2 17)<|ar [] 8 (λ X_=>(gm t.S t.i _ hS.toSetN)) ?_
   have hb8:=gl hS.toSetN t.i
   refine ag [] [9] []<|RD.fin<|ae 7 [] λ _=>RN.em (ah t.S t.i >= 0) 57 (λ h9=>?_) λ h9=>?_
   ·refine ae 2 [] λ _=>RN.draw [] []<|aJ [] [0,4,7,11,1,5,8,12,2,9,3,10] [.nw,.nw,.own 2,.own 2] [br ((ah t.S t.i)+1),br ((ah t.S t.i)+0)]<|ar [] 6 (λ X_=>(aw ((ah t.S t.i)+0) hM4 (aR 0)))<|ar [] 13 (λ X_=>(aw ((ah t.S t.i)+1) hM4 (aR 0)))<|ag [] [14,15] []<|RD.fin<|ae 1 [] λ _=>RN.draw [17] []<|ag [] [0,1,2,8,9,3,10,4,11,5,12,6,13,7,14,15] [.own 0,.own 0,.own 2,.own 2]<|ar [] 16 (λ X_=>(dT (aC (⟨(aq t.S (M.set ((af t.S t.i)+6) 0) t.i).vx,(aq t.S (M.set ((af t.S t.i)+6) 0) t.i).vy⟩:V2) t.S.g) (⟨IntKind.i64.wrap (((M.set ((af t.S t.i)+6) 0).get ((ah t.S t.i)+0)) * t.S.push),IntKind.i64.wrap (((M.set ((af t.S t.i)+6) 0).get ((ah t.S t.i)+1)) * t.S.push)⟩:V2)  _))<|RD.one 17 (RDO.ev [] [.own 0,.own 0] λ _=>?_)
    refine RD.fin<|ae 2 [] λ _=>RN.draw [8] []<|ag [] [0,1,2,3,4,5,6] [.own 0,.own 0,.own 2]<|ar [] 7 (λ X_=>(eH (aC (aC (⟨(aq t.S (M.set ((af t.S t.i)+6) 0) t.i).vx,(aq t.S (M.set ((af t.S t.i)+6) 0) t.i).vy⟩:V2) t.S.g) (⟨IntKind.i64.wrap (((M.set ((af t.S t.i)+6) 0).get ((ah t.S t.i)+0)) * t.S.push),IntKind.i64.wrap (((M.set ((af t.S t.i)+6) 0).get ((ah t.S t.i)+1)) * t.S.push)⟩:V2)) (IntKind.i64.wrap (1024 - t.S.drag))  _))<|RD.one 8 (RDO.ev [] [.own 0,.own 0] λ _=>?_)
    refine RD.fin<|ae 2 [] λ _=>RN.draw [] []<|ag [] [0,4,1,5,2,6,3,7] (ow 2 17)<|ar [] 8 (λ X_=>(bS t.S t.i _ hS.toSetN)) ?_
    have hb10:=cB hS.toSetN t.i
    refine ag [] [9] []<|RD.fin<|ae 2 [] λ _=>RN.draw [11] []<|aJ [] [0,4,6,1,5,7,2,3,9,10] [.nw,.own 0,.own 2] [br ((af t.S t.i)+2)]<|ar [] 8 (λ X_=>(cz ((ao (aC (aC (⟨(aq t.S (M.set ((af t.S t.i)+6) 0) t.i).vx,(aq t.S (M.set ((af t.S t.i)+6) 0) t.i).vy⟩:V2) t.S.g) (⟨IntKind.i64.wrap (((M.set ((af t.S t.i)+6) 0).get ((ah t.S t.i)+0)) * t.S.push),IntKind.i64.wrap (((M.set ((af t.S t.i)+6) 0).get ((ah t.S t.i)+1)) * t.S.push)⟩:V2)) (IntKind.i64.wrap (1024 - t.S.drag))).x) (-16384) 16384  _))<|RD.one 11 (RDO.ct [] [] [0] (ai ((af t.S t.i)+2) (aF ((ao (aC (aC (⟨(aq t.S (M.set ((af t.S t.i)+6) 0) t.i).vx,(aq t.S (M.set ((af t.S t.i)+6) 0) t.i).vy⟩:V2) t.S.g) (⟨IntKind.i64.wrap (((M.set ((af t.S t.i)+6) 0).get ((ah t.S t.i)+0)) * t.S.push),IntKind.i64.wrap (((M.set ((af t.S t.i)+6) 0).get ((ah t.S t.i)+1)) * t.S.push)⟩:V2)) (IntKind.i64.wrap (1024 - t.S.drag))).x) (-16384) 16384) hM4) ?_)
    rintro _ T11 hM12
    refine RD.fin<|ae 1 [] λ _=>RN.draw [11] []<|aJ [] [0,4,6,1,5,7,2,3,9,10] [.nw,.own 0,.own 2] [br ((af t.S t.i)+3)]<|ar [] 8 (λ X_=>(cz ((ao (aC (aC (⟨(aq t.S (M.set ((af t.S t.i)+6) 0) t.i).vx,(aq t.S (M.set ((af t.S t.i)+6) 0) t.i).vy⟩:V2) t.S.g) (⟨IntKind.i64.wrap (((M.set ((af t.S t.i)+6) 0).get ((ah t.S t.i)+0)) * t.S.push),IntKind.i64.wrap (((M.set ((af t.S t.i)+6) 0).get ((ah t.S t.i)+1)) * t.S.push)⟩:V2)) (IntKind.i64.wrap (1024 - t.S.drag))).y) (-16384) 16384  _))<|RD.one 11 (RDO.ct [] [] [0] (ai ((af t.S t.i)+3) (aF ((ao (aC (aC (⟨(aq t.S (M.set ((af t.S t.i)+6) 0) t.i).vx,(aq t.S (M.set ((af t.S t.i)+6) 0) t.i).vy⟩:V2) t.S.g) (⟨IntKind.i64.wrap (((M.set ((af t.S t.i)+6) 0).get ((ah t.S t.i)+0)) * t.S.push),IntKind.i64.wrap (((M.set ((af t.S t.i)+6) 0).get ((ah t.S t.i)+1)) * t.S.push)⟩:V2)) (IntKind.i64.wrap (1024 - t.S.drag))).y) (-16384) 16384) hM12) ?_)
    rintro _ T13 hM14
    refine RD.fin<|ae 3 [] λ _=>RN.draw [] []<|ag [] [0,5,1,6,2,7,3,8,4,9,10,11] [.own 2,.own 2]<|RD.fin<|ae 1 [] λ _=>RN.em (IntKind.i64.wrap (t.i+1) < (t.S.nb:Int)) 141 (λ h15=>?_) λ h15=>?_
    ·refine ae 2 [] λ _=>RN.draw [11] []<|ag [] [0,4,1,5,2,6,3,7,8,9,10] [.own 2,.own 2]<|RD.one 11 (RDO.ct [] [] [0] (ai 2 (IntKind.i64.wrap (t.i+1)) hM14) ?_)
     rintro _ T16 hM17
     refine RD.fin<|ae 1 [] λ _=>RN.ret [] [2] [0] (v:=.tuple #[]) (H':=(ap [(tb,.lit (Stp.l t mb) 140 (0,0))] [T16])) ?_
     refine ⟨T16,rfl,?_⟩
     have e:(aQ t M)=((((M.set ((af t.S t.i)+6) 0).set ((af t.S t.i)+2) (aF ((ao (aC (aC (⟨(aq t.S (M.set ((af t.S t.i)+6) 0) t.i).vx,(aq t.S (M.set ((af t.S t.i)+6) 0) t.i).vy⟩:V2) t.S.g) (⟨IntKind.i64.wrap (((M.set ((af t.S t.i)+6) 0).get ((ah t.S t.i)+0)) * t.S.push),IntKind.i64.wrap (((M.set ((af t.S t.i)+6) 0).get ((ah t.S t.i)+1)) * t.S.push)⟩:V2)) (IntKind.i64.wrap (1024 - t.S.drag))).x) (-16384) 16384)).set ((af t.S t.i)+3) (aF ((ao (aC (aC (⟨(aq t.S (M.set ((af t.S t.i)+6) 0) t.i).vx,(aq t.S (M.set ((af t.S t.i)+6) 0) t.i).vy⟩:V2) t.S.g) (⟨IntKind.i64.wrap (((M.set ((af t.S t.i)+6) 0).get ((ah t.S t.i)+0)) * t.S.push),IntKind.i64.wrap (((M.set ((af t.S t.i)+6) 0).get ((ah t.S t.i)+1)) * t.S.push)⟩:V2)) (IntKind.i64.wrap (1024 - t.S.drag))).y) (-16384) 16384)).set 2 (IntKind.i64.wrap (t.i+1))):=by
      first | (simp only [aQ,bE,bI,bW,bV,if_pos h2,if_pos h5,if_pos h9,if_pos h15];done) | (simp only [aQ,bE,bI,bW,bV,if_pos h2,if_pos h5,if_pos h9,if_pos h15];rfl) | rfl
     rw [e]
     exact hM17.weak (by omega)
    ·refine ae 6 [] λ _=>RN.ct [2] [0] (bH t 4 1 tb mb (((M.set ((af t.S t.i)+6) 0).set ((af t.S t.i)+2) (aF ((ao (aC (aC (⟨(aq t.S (M.set ((af t.S t.i)+6) 0) t.i).vx,(aq t.S (M.set ((af t.S t.i)+6) 0) t.i).vy⟩:V2) t.S.g) (⟨IntKind.i64.wrap (((M.set ((af t.S t.i)+6) 0).get ((ah t.S t.i)+0)) * t.S.push),IntKind.i64.wrap (((M.set ((af t.S t.i)+6) 0).get ((ah t.S t.i)+1)) * t.S.push)⟩:V2)) (IntKind.i64.wrap (1024 - t.S.drag))).x) (-16384) 16384)).set ((af t.S t.i)+3) (aF ((ao (aC (aC (⟨(aq t.S (M.set ((af t.S t.i)+6) 0) t.i).vx,(aq t.S (M.set ((af t.S t.i)+6) 0) t.i).vy⟩:V2) t.S.g) (⟨IntKind.i64.wrap (((M.set ((af t.S t.i)+6) 0).get ((ah t.S t.i)+0)) * t.S.push),IntKind.i64.wrap (((M.set ((af t.S t.i)+6) 0).get ((ah t.S t.i)+1)) * t.S.push)⟩:V2)) (IntKind.i64.wrap (1024 - t.S.drag))).y) (-16384) 16384)) (k+2) T13 _ hM14 hS.up ) ?_
     rintro _ T18 hM19
     refine ae 7 [.own 0] λ _=>RN.ct [] [0] (ai 4 0 hM19) ?_
     rintro _ T20 hM21
     refine ae 1 [] λ _=>RN.ret [] [0] [0] (v:=.tuple #[]) (H':=(ap [(tb,.lit (Stp.l t mb) 140 (0,0))] [T20])) ?_
     refine ⟨T20,rfl,?_⟩
     have e:(aQ t M)=((aM t 4 1 (((M.set ((af t.S t.i)+6) 0).set ((af t.S t.i)+2) (aF ((ao (aC (aC (⟨(aq t.S (M.set ((af t.S t.i)+6) 0) t.i).vx,(aq t.S (M.set ((af t.S t.i)+6) 0) t.i).vy⟩:V2) t.S.g) (⟨IntKind.i64.wrap (((M.set ((af t.S t.i)+6) 0).get ((ah t.S t.i)+0)) * t.S.push),IntKind.i64.wrap (((M.set ((af t.S t.i)+6) 0).get ((ah t.S t.i)+1)) * t.S.push)⟩:V2)) (IntKind.i64.wrap (1024 - t.S.drag))).x) (-16384) 16384)).set ((af t.S t.i)+3) (aF ((ao (aC (aC (⟨(aq t.S (M.set ((af t.S t.i)+6) 0) t.i).vx,(aq t.S (M.set ((af t.S t.i)+6) 0) t.i).vy⟩:V2) t.S.g) (⟨IntKind.i64.wrap (((M.set ((af t.S t.i)+6) 0).get ((ah t.S t.i)+0)) * t.S.push),IntKind.i64.wrap (((M.set ((af t.S t.i)+6) 0).get ((ah t.S t.i)+1)) * t.S.push)⟩:V2)) (IntKind.i64.wrap (1024 - t.S.drag))).y) (-16384) 16384))).set 4 0):=by
      first | (simp only [aQ,bE,bI,bW,bV,if_pos h2,if_pos h5,if_pos h9,if_neg h15];done) | (simp only [aQ,bE,bI,bW,bV,if_pos h2,if_pos h5,if_pos h9,if_neg h15];rfl) | rfl
     rw [e]
     exact hM21.weak (by omega)
   ·refine ae 4 [] λ _=>RN.draw [8] []<|ag [] [0,1,2,3,4,5,6] [.own 0,.own 0,.own 2]<|ar [] 7 (λ X_=>(eH (aC (⟨(aq t.S (M.set ((af t.S t.i)+6) 0) t.i).vx,(aq t.S (M.set ((af t.S t.i)+6) 0) t.i).vy⟩:V2) t.S.g) (IntKind.i64.wrap (1024 - t.S.drag))  _))<|RD.one 8 (RDO.ev [] [.own 0,.own 0] λ _=>?_)
    refine RD.fin<|ae 2 [] λ _=>RN.draw [] []<|ag [] [0,4,1,5,2,6,3,7] (ow 2 17)<|ar [] 8 (λ X_=>(bS t.S t.i _ hS.toSetN)) ?_
    have hb22:=cB hS.toSetN t.i
    refine ag [] [9] []<|RD.fin<|ae 2 [] λ _=>RN.draw [11] []<|aJ [] [0,4,6,1,5,7,2,3,9,10] [.nw,.own 0,.own 2] [br ((af t.S t.i)+2)]<|ar [] 8 (λ X_=>(cz ((ao (aC (⟨(aq t.S (M.set ((af t.S t.i)+6) 0) t.i).vx,(aq t.S (M.set ((af t.S t.i)+6) 0) t.i).vy⟩:V2) t.S.g) (IntKind.i64.wrap (1024 - t.S.drag))).x) (-16384) 16384  _))<|RD.one 11 (RDO.ct [] [] [0] (ai ((af t.S t.i)+2) (aF ((ao (aC (⟨(aq t.S (M.set ((af t.S t.i)+6) 0) t.i).vx,(aq t.S (M.set ((af t.S t.i)+6) 0) t.i).vy⟩:V2) t.S.g) (IntKind.i64.wrap (1024 - t.S.drag))).x) (-16384) 16384) hM4) ?_)
    rintro _ T23 hM24
    refine RD.fin<|ae 1 [] λ _=>RN.draw [11] []<|aJ [] [0,4,6,1,5,7,2,3,9,10] [.nw,.own 0,.own 2] [br ((af t.S t.i)+3)]<|ar [] 8 (λ X_=>(cz ((ao (aC (⟨(aq t.S (M.set ((af t.S t.i)+6) 0) t.i).vx,(aq t.S (M.set ((af t.S t.i)+6) 0) t.i).vy⟩:V2) t.S.g) (IntKind.i64.wrap (1024 - t.S.drag))).y) (-16384) 16384  _))<|RD.one 11 (RDO.ct [] [] [0] (ai ((af t.S t.i)+3) (aF ((ao (aC (⟨(aq t.S (M.set ((af t.S t.i)+6) 0) t.i).vx,(aq t.S (M.set ((af t.S t.i)+6) 0) t.i).vy⟩:V2) t.S.g) (IntKind.i64.wrap (1024 - t.S.drag))).y) (-16384) 16384) hM24) ?_)
    rintro _ T25 hM26
    refine RD.fin<|ae 3 [] λ _=>RN.draw [] []<|ag [] [0,5,1,6,2,7,3,8,4,9,10,11] [.own 2,.own 2]<|RD.fin<|ae 1 [] λ _=>RN.em (IntKind.i64.wrap (t.i+1) < (t.S.nb:Int)) 141 (λ h27=>?_) λ h27=>?_
    ·refine ae 2 [] λ _=>RN.draw [11] []<|ag [] [0,4,1,5,2,6,3,7,8,9,10] [.own 2,.own 2]<|RD.one 11 (RDO.ct [] [] [0] (ai 2 (IntKind.i64.wrap (t.i+1)) hM26) ?_)
     rintro _ T28 hM29
     refine RD.fin<|ae 1 [] λ _=>RN.ret [] [2] [0] (v:=.tuple #[]) (H':=(ap [(tb,.lit (Stp.l t mb) 140 (0,0))] [T28])) ?_
     refine ⟨T28,rfl,?_⟩
     have e:(aQ t M)=((((M.set ((af t.S t.i)+6) 0).set ((af t.S t.i)+2) (aF ((ao (aC (⟨(aq t.S (M.set ((af t.S t.i)+6) 0) t.i).vx,(aq t.S (M.set ((af t.S t.i)+6) 0) t.i).vy⟩:V2) t.S.g) (IntKind.i64.wrap (1024 - t.S.drag))).x) (-16384) 16384)).set ((af t.S t.i)+3) (aF ((ao (aC (⟨(aq t.S (M.set ((af t.S t.i)+6) 0) t.i).vx,(aq t.S (M.set ((af t.S t.i)+6) 0) t.i).vy⟩:V2) t.S.g) (IntKind.i64.wrap (1024 - t.S.drag))).y) (-16384) 16384)).set 2 (IntKind.i64.wrap (t.i+1))):=by
      first | (simp only [aQ,bE,bI,bW,bV,if_pos h2,if_pos h5,if_neg h9,if_pos h27];done) | (simp only [aQ,bE,bI,bW,bV,if_pos h2,if_pos h5,if_neg h9,if_pos h27];rfl) | rfl
     rw [e]
     exact hM29.weak (by omega)
    ·refine ae 6 [] λ _=>RN.ct [2] [0] (bH t 4 1 tb mb (((M.set ((af t.S t.i)+6) 0).set ((af t.S t.i)+2) (aF ((ao (aC (⟨(aq t.S (M.set ((af t.S t.i)+6) 0) t.i).vx,(aq t.S (M.set ((af t.S t.i)+6) 0) t.i).vy⟩:V2) t.S.g) (IntKind.i64.wrap (1024 - t.S.drag))).x) (-16384) 16384)).set ((af t.S t.i)+3) (aF ((ao (aC (⟨(aq t.S (M.set ((af t.S t.i)+6) 0) t.i).vx,(aq t.S (M.set ((af t.S t.i)+6) 0) t.i).vy⟩:V2) t.S.g) (IntKind.i64.wrap (1024 - t.S.drag))).y) (-16384) 16384)) (k+2) T25 _ hM26 hS.up ) ?_
     rintro _ T30 hM31
     refine ae 7 [.own 0] λ _=>RN.ct [] [0] (ai 4 0 hM31) ?_
     rintro _ T32 hM33
     refine ae 1 [] λ _=>RN.ret [] [0] [0] (v:=.tuple #[]) (H':=(ap [(tb,.lit (Stp.l t mb) 140 (0,0))] [T32])) ?_
     refine ⟨T32,rfl,?_⟩
     have e:(aQ t M)=((aM t 4 1 (((M.set ((af t.S t.i)+6) 0).set ((af t.S t.i)+2) (aF ((ao (aC (⟨(aq t.S (M.set ((af t.S t.i)+6) 0) t.i).vx,(aq t.S (M.set ((af t.S t.i)+6) 0) t.i).vy⟩:V2) t.S.g) (IntKind.i64.wrap (1024 - t.S.drag))).x) (-16384) 16384)).set ((af t.S t.i)+3) (aF ((ao (aC (⟨(aq t.S (M.set ((af t.S t.i)+6) 0) t.i).vx,(aq t.S (M.set ((af t.S t.i)+6) 0) t.i).vy⟩:V2) t.S.g) (IntKind.i64.wrap (1024 - t.S.drag))).y) (-16384) 16384))).set 4 0):=by
      first | (simp only [aQ,bE,bI,bW,bV,if_pos h2,if_pos h5,if_neg h9,if_neg h27];done) | (simp only [aQ,bE,bI,bW,bV,if_pos h2,if_pos h5,if_neg h9,if_neg h27];rfl) | rfl
     rw [e]
     exact hM33.weak (by omega)
  ·refine ae 5 [] λ _=>RN.draw [] []<|ag [] [0,5,1,6,2,7,3,8,4,9,10,11] [.own 0,.own 0]<|RD.fin<|ae 1 [] λ _=>RN.em (IntKind.i64.wrap (t.i+1) < (t.S.nb:Int)) 141 (λ h34=>?_) λ h34=>?_
   ·refine ae 2 [] λ _=>RN.draw [11] []<|ag [] [0,4,1,5,2,6,3,7,8,9,10] [.own 0,.own 0]<|RD.one 11 (RDO.ct [] [] [0] (ai 2 (IntKind.i64.wrap (t.i+1)) hM4) ?_)
    rintro _ T35 hM36
    refine RD.fin<|ae 1 [] λ _=>RN.ret [] [0] [0] (v:=.tuple #[]) (H':=(ap [(tb,.lit (Stp.l t mb) 140 (0,0))] [T35])) ?_
    refine ⟨T35,rfl,?_⟩
    have e:(aQ t M)=((M.set ((af t.S t.i)+6) 0).set 2 (IntKind.i64.wrap (t.i+1))):=by
     first | (simp only [aQ,bE,bI,bW,bV,if_pos h2,if_neg h5,if_pos h34];done) | (simp only [aQ,bE,bI,bW,bV,if_pos h2,if_neg h5,if_pos h34];rfl) | rfl
    rw [e]
    exact hM36.weak (by omega)
   ·refine ae 6 [] λ _=>RN.ct [0] [0] (bH t 4 1 tb mb (M.set ((af t.S t.i)+6) 0) (k+4) T3 _ hM4 hS.up ) ?_
    rintro _ T37 hM38
    refine ae 7 [.own 0] λ _=>RN.ct [] [0] (ai 4 0 hM38) ?_
    rintro _ T39 hM40
    refine ae 1 [] λ _=>RN.ret [] [0] [0] (v:=.tuple #[]) (H':=(ap [(tb,.lit (Stp.l t mb) 140 (0,0))] [T39])) ?_
    refine ⟨T39,rfl,?_⟩
    have e:(aQ t M)=((aM t 4 1 (M.set ((af t.S t.i)+6) 0)).set 4 0):=by
     first | (simp only [aQ,bE,bI,bW,bV,if_pos h2,if_neg h5,if_neg h34];done) | (simp only [aQ,bE,bI,bW,bV,if_pos h2,if_neg h5,if_neg h34];rfl) | rfl
    rw [e]
    exact hM40.weak (by omega)
 ·refine ae 11 [.own 0] λ _=>aj (iT t t.i tb mb _ (aB 0) hS.up)<|ae 2 [] λ _=>RN.em (movP t.S t.i) 32 (λ h41=>?_) λ h41=>?_
  ·have:=movP.has h41
   refine ae 8 [.own 0] λ _=>aj (fq t t.i tb mb M _ T _ (aB 0) hS.up hM (aA 0) (movP.has h41))<|ae 5 (ow 0 5) λ n42=>RN.draw [9] []<|ag [] [0,2,1,3,4,5,6] [.own 0,.own 0,.own 1,.own 1]<|ar [] 7 (λ X_=>(dT (⟨(aq t.S M t.i).vx,(aq t.S M t.i).vy⟩:V2) t.S.g  _))<|RD.one 8 (RDO.ev [] [] λ n43=>?_)
   refine RD.one 9 (RDO.ev [] [.own 0,.own 0] λ _=>?_)
   refine RD.fin<|ae 3 [] λ _=>RN.draw [] []<|ag [] [0,4,1,5,2,6,3,7] (ow 2 17)<|ar [] 8 (λ X_=>(gm t.S t.i _ hS.toSetN)) ?_
   have hb44:=gl hS.toSetN t.i
   refine ag [] [9] []<|RD.fin<|ae 7 [] λ _=>RN.em (ah t.S t.i >= 0) 57 (λ h45=>?_) λ h45=>?_
   ·refine ae 2 [] λ _=>RN.draw [] []<|aJ [] [0,4,7,11,1,5,8,12,2,9,3,10] [.nw,.nw,.own 2,.own 2] [br ((ah t.S t.i)+1),br ((ah t.S t.i)+0)]<|ar [] 6 (λ X_=>(aw ((ah t.S t.i)+0) hM (aR 0)))<|ar [] 13 (λ X_=>(aw ((ah t.S t.i)+1) hM (aR 0)))<|ag [] [14,15] []<|RD.fin<|ae 1 [] λ _=>RN.draw [17] []<|ag [] [0,1,2,8,9,3,10,4,11,5,12,6,13,7,14,15] [.own 0,.own 0,.own 2,.own 2]<|ar [] 16 (λ X_=>(dT (aC (⟨(aq t.S M t.i).vx,(aq t.S M t.i).vy⟩:V2) t.S.g) (⟨IntKind.i64.wrap ((M.get ((ah t.S t.i)+0)) * t.S.push),IntKind.i64.wrap ((M.get ((ah t.S t.i)+1)) * t.S.push)⟩:V2)  _))<|RD.one 17 (RDO.ev [] [.own 0,.own 0] λ _=>?_)
    refine RD.fin<|ae 2 [] λ _=>RN.draw [8] []<|ag [] [0,1,2,3,4,5,6] [.own 0,.own 0,.own 2]<|ar [] 7 (λ X_=>(eH (aC (aC (⟨(aq t.S M t.i).vx,(aq t.S M t.i).vy⟩:V2) t.S.g) (⟨IntKind.i64.wrap ((M.get ((ah t.S t.i)+0)) * t.S.push),IntKind.i64.wrap ((M.get ((ah t.S t.i)+1)) * t.S.push)⟩:V2)) (IntKind.i64.wrap (1024 - t.S.drag))  _))<|RD.one 8 (RDO.ev [] [.own 0,.own 0] λ _=>?_)
    refine RD.fin<|ae 2 [] λ _=>RN.draw [] []<|ag [] [0,4,1,5,2,6,3,7] (ow 2 17)<|ar [] 8 (λ X_=>(bS t.S t.i _ hS.toSetN)) ?_
    have hb46:=cB hS.toSetN t.i
    refine ag [] [9] []<|RD.fin<|ae 2 [] λ _=>RN.draw [11] []<|aJ [] [0,4,6,1,5,7,2,3,9,10] [.nw,.own 0,.own 2] [br ((af t.S t.i)+2)]<|ar [] 8 (λ X_=>(cz ((ao (aC (aC (⟨(aq t.S M t.i).vx,(aq t.S M t.i).vy⟩:V2) t.S.g) (⟨IntKind.i64.wrap ((M.get ((ah t.S t.i)+0)) * t.S.push),IntKind.i64.wrap ((M.get ((ah t.S t.i)+1)) * t.S.push)⟩:V2)) (IntKind.i64.wrap (1024 - t.S.drag))).x) (-16384) 16384  _))<|RD.one 11 (RDO.ct [] [] [0] (ai ((af t.S t.i)+2) (aF ((ao (aC (aC (⟨(aq t.S M t.i).vx,(aq t.S M t.i).vy⟩:V2) t.S.g) (⟨IntKind.i64.wrap ((M.get ((ah t.S t.i)+0)) * t.S.push),IntKind.i64.wrap ((M.get ((ah t.S t.i)+1)) * t.S.push)⟩:V2)) (IntKind.i64.wrap (1024 - t.S.drag))).x) (-16384) 16384) hM) ?_)
    rintro _ T47 hM48
    refine RD.fin<|ae 1 [] λ _=>RN.draw [11] []<|aJ [] [0,4,6,1,5,7,2,3,9,10] [.nw,.own 0,.own 2] [br ((af t.S t.i)+3)]<|ar [] 8 (λ X_=>(cz ((ao (aC (aC (⟨(aq t.S M t.i).vx,(aq t.S M t.i).vy⟩:V2) t.S.g) (⟨IntKind.i64.wrap ((M.get ((ah t.S t.i)+0)) * t.S.push),IntKind.i64.wrap ((M.get ((ah t.S t.i)+1)) * t.S.push)⟩:V2)) (IntKind.i64.wrap (1024 - t.S.drag))).y) (-16384) 16384  _))<|RD.one 11 (RDO.ct [] [] [0] (ai ((af t.S t.i)+3) (aF ((ao (aC (aC (⟨(aq t.S M t.i).vx,(aq t.S M t.i).vy⟩:V2) t.S.g) (⟨IntKind.i64.wrap ((M.get ((ah t.S t.i)+0)) * t.S.push),IntKind.i64.wrap ((M.get ((ah t.S t.i)+1)) * t.S.push)⟩:V2)) (IntKind.i64.wrap (1024 - t.S.drag))).y) (-16384) 16384) hM48) ?_)
    rintro _ T49 hM50
    refine RD.fin<|ae 3 [] λ _=>RN.draw [] []<|ag [] [0,5,1,6,2,7,3,8,4,9,10,11] [.own 2,.own 2]<|RD.fin<|ae 1 [] λ _=>RN.em (IntKind.i64.wrap (t.i+1) < (t.S.nb:Int)) 141 (λ h51=>?_) λ h51=>?_
    ·refine ae 2 [] λ _=>RN.draw [11] []<|ag [] [0,4,1,5,2,6,3,7,8,9,10] [.own 2,.own 2]<|RD.one 11 (RDO.ct [] [] [0] (ai 2 (IntKind.i64.wrap (t.i+1)) hM50) ?_)
     rintro _ T52 hM53
     refine RD.fin<|ae 1 [] λ _=>RN.ret [] [2] [0] (v:=.tuple #[]) (H':=(ap [(tb,.lit (Stp.l t mb) 140 (0,0))] [T52])) ?_
     refine ⟨T52,rfl,?_⟩
     have e:(aQ t M)=(((M.set ((af t.S t.i)+2) (aF ((ao (aC (aC (⟨(aq t.S M t.i).vx,(aq t.S M t.i).vy⟩:V2) t.S.g) (⟨IntKind.i64.wrap ((M.get ((ah t.S t.i)+0)) * t.S.push),IntKind.i64.wrap ((M.get ((ah t.S t.i)+1)) * t.S.push)⟩:V2)) (IntKind.i64.wrap (1024 - t.S.drag))).x) (-16384) 16384)).set ((af t.S t.i)+3) (aF ((ao (aC (aC (⟨(aq t.S M t.i).vx,(aq t.S M t.i).vy⟩:V2) t.S.g) (⟨IntKind.i64.wrap ((M.get ((ah t.S t.i)+0)) * t.S.push),IntKind.i64.wrap ((M.get ((ah t.S t.i)+1)) * t.S.push)⟩:V2)) (IntKind.i64.wrap (1024 - t.S.drag))).y) (-16384) 16384)).set 2 (IntKind.i64.wrap (t.i+1))):=by
      first | (simp only [aQ,bE,bI,bW,bV,if_neg h2,if_pos h41,if_pos h45,if_pos h51];done) | (simp only [aQ,bE,bI,bW,bV,if_neg h2,if_pos h41,if_pos h45,if_pos h51];rfl) | rfl
     rw [e]
     exact hM53.weak (by omega)
    ·refine ae 6 [] λ _=>RN.ct [2] [0] (bH t 4 1 tb mb ((M.set ((af t.S t.i)+2) (aF ((ao (aC (aC (⟨(aq t.S M t.i).vx,(aq t.S M t.i).vy⟩:V2) t.S.g) (⟨IntKind.i64.wrap ((M.get ((ah t.S t.i)+0)) * t.S.push),IntKind.i64.wrap ((M.get ((ah t.S t.i)+1)) * t.S.push)⟩:V2)) (IntKind.i64.wrap (1024 - t.S.drag))).x) (-16384) 16384)).set ((af t.S t.i)+3) (aF ((ao (aC (aC (⟨(aq t.S M t.i).vx,(aq t.S M t.i).vy⟩:V2) t.S.g) (⟨IntKind.i64.wrap ((M.get ((ah t.S t.i)+0)) * t.S.push),IntKind.i64.wrap ((M.get ((ah t.S t.i)+1)) * t.S.push)⟩:V2)) (IntKind.i64.wrap (1024 - t.S.drag))).y) (-16384) 16384)) (k+3) T49 _ hM50 hS.up ) ?_
     rintro _ T54 hM55
     refine ae 7 [.own 0] λ _=>RN.ct [] [0] (ai 4 0 hM55) ?_
     rintro _ T56 hM57
     refine ae 1 [] λ _=>RN.ret [] [0] [0] (v:=.tuple #[]) (H':=(ap [(tb,.lit (Stp.l t mb) 140 (0,0))] [T56])) ?_
     refine ⟨T56,rfl,?_⟩
     have e:(aQ t M)=((aM t 4 1 ((M.set ((af t.S t.i)+2) (aF ((ao (aC (aC (⟨(aq t.S M t.i).vx,(aq t.S M t.i).vy⟩:V2) t.S.g) (⟨IntKind.i64.wrap ((M.get ((ah t.S t.i)+0)) * t.S.push),IntKind.i64.wrap ((M.get ((ah t.S t.i)+1)) * t.S.push)⟩:V2)) (IntKind.i64.wrap (1024 - t.S.drag))).x) (-16384) 16384)).set ((af t.S t.i)+3) (aF ((ao (aC (aC (⟨(aq t.S M t.i).vx,(aq t.S M t.i).vy⟩:V2) t.S.g) (⟨IntKind.i64.wrap ((M.get ((ah t.S t.i)+0)) * t.S.push),IntKind.i64.wrap ((M.get ((ah t.S t.i)+1)) * t.S.push)⟩:V2)) (IntKind.i64.wrap (1024 - t.S.drag))).y) (-16384) 16384))).set 4 0):=by
      first | (simp only [aQ,bE,bI,bW,bV,if_neg h2,if_pos h41,if_pos h45,if_neg h51];done) | (simp only [aQ,bE,bI,bW,bV,if_neg h2,if_pos h41,if_pos h45,if_neg h51];rfl) | rfl
     rw [e]
     exact hM57.weak (by omega)
   ·refine ae 4 [] λ _=>RN.draw [8] []<|ag [] [0,1,2,3,4,5,6] [.own 0,.own 0,.own 2]<|ar [] 7 (λ X_=>(eH (aC (⟨(aq t.S M t.i).vx,(aq t.S M t.i).vy⟩:V2) t.S.g) (IntKind.i64.wrap (1024 - t.S.drag))  _))<|RD.one 8 (RDO.ev [] [.own 0,.own 0] λ _=>?_)
    refine RD.fin<|ae 2 [] λ _=>RN.draw [] []<|ag [] [0,4,1,5,2,6,3,7] (ow 2 17)<|ar [] 8 (λ X_=>(bS t.S t.i _ hS.toSetN)) ?_
    have hb58:=cB hS.toSetN t.i
    refine ag [] [9] []<|RD.fin<|ae 2 [] λ _=>RN.draw [11] []<|aJ [] [0,4,6,1,5,7,2,3,9,10] [.nw,.own 0,.own 2] [br ((af t.S t.i)+2)]<|ar [] 8 (λ X_=>(cz ((ao (aC (⟨(aq t.S M t.i).vx,(aq t.S M t.i).vy⟩:V2) t.S.g) (IntKind.i64.wrap (1024 - t.S.drag))).x) (-16384) 16384  _))<|RD.one 11 (RDO.ct [] [] [0] (ai ((af t.S t.i)+2) (aF ((ao (aC (⟨(aq t.S M t.i).vx,(aq t.S M t.i).vy⟩:V2) t.S.g) (IntKind.i64.wrap (1024 - t.S.drag))).x) (-16384) 16384) hM) ?_)
    rintro _ T59 hM60
    refine RD.fin<|ae 1 [] λ _=>RN.draw [11] []<|aJ [] [0,4,6,1,5,7,2,3,9,10] [.nw,.own 0,.own 2] [br ((af t.S t.i)+3)]<|ar [] 8 (λ X_=>(cz ((ao (aC (⟨(aq t.S M t.i).vx,(aq t.S M t.i).vy⟩:V2) t.S.g) (IntKind.i64.wrap (1024 - t.S.drag))).y) (-16384) 16384  _))<|RD.one 11 (RDO.ct [] [] [0] (ai ((af t.S t.i)+3) (aF ((ao (aC (⟨(aq t.S M t.i).vx,(aq t.S M t.i).vy⟩:V2) t.S.g) (IntKind.i64.wrap (1024 - t.S.drag))).y) (-16384) 16384) hM60) ?_)
    rintro _ T61 hM62
    refine RD.fin<|ae 3 [] λ _=>RN.draw [] []<|ag [] [0,5,1,6,2,7,3,8,4,9,10,11] [.own 2,.own 2]<|RD.fin<|ae 1 [] λ _=>RN.em (IntKind.i64.wrap (t.i+1) < (t.S.nb:Int)) 141 (λ h63=>?_) λ h63=>?_
    ·refine ae 2 [] λ _=>RN.draw [11] []<|ag [] [0,4,1,5,2,6,3,7,8,9,10] [.own 2,.own 2]<|RD.one 11 (RDO.ct [] [] [0] (ai 2 (IntKind.i64.wrap (t.i+1)) hM62) ?_)
     rintro _ T64 hM65
     refine RD.fin<|ae 1 [] λ _=>RN.ret [] [2] [0] (v:=.tuple #[]) (H':=(ap [(tb,.lit (Stp.l t mb) 140 (0,0))] [T64])) ?_
     refine ⟨T64,rfl,?_⟩
     have e:(aQ t M)=(((M.set ((af t.S t.i)+2) (aF ((ao (aC (⟨(aq t.S M t.i).vx,(aq t.S M t.i).vy⟩:V2) t.S.g) (IntKind.i64.wrap (1024 - t.S.drag))).x) (-16384) 16384)).set ((af t.S t.i)+3) (aF ((ao (aC (⟨(aq t.S M t.i).vx,(aq t.S M t.i).vy⟩:V2) t.S.g) (IntKind.i64.wrap (1024 - t.S.drag))).y) (-16384) 16384)).set 2 (IntKind.i64.wrap (t.i+1))):=by
      first | (simp only [aQ,bE,bI,bW,bV,if_neg h2,if_pos h41,if_neg h45,if_pos h63];done) | (simp only [aQ,bE,bI,bW,bV,if_neg h2,if_pos h41,if_neg h45,if_pos h63];rfl) | rfl
     rw [e]
     exact hM65.weak (by omega)
    ·refine ae 6 [] λ _=>RN.ct [2] [0] (bH t 4 1 tb mb ((M.set ((af t.S t.i)+2) (aF ((ao (aC (⟨(aq t.S M t.i).vx,(aq t.S M t.i).vy⟩:V2) t.S.g) (IntKind.i64.wrap (1024 - t.S.drag))).x) (-16384) 16384)).set ((af t.S t.i)+3) (aF ((ao (aC (⟨(aq t.S M t.i).vx,(aq t.S M t.i).vy⟩:V2) t.S.g) (IntKind.i64.wrap (1024 - t.S.drag))).y) (-16384) 16384)) (k+3) T61 _ hM62 hS.up ) ?_
     rintro _ T66 hM67
     refine ae 7 [.own 0] λ _=>RN.ct [] [0] (ai 4 0 hM67) ?_
     rintro _ T68 hM69
     refine ae 1 [] λ _=>RN.ret [] [0] [0] (v:=.tuple #[]) (H':=(ap [(tb,.lit (Stp.l t mb) 140 (0,0))] [T68])) ?_
     refine ⟨T68,rfl,?_⟩
     have e:(aQ t M)=((aM t 4 1 ((M.set ((af t.S t.i)+2) (aF ((ao (aC (⟨(aq t.S M t.i).vx,(aq t.S M t.i).vy⟩:V2) t.S.g) (IntKind.i64.wrap (1024 - t.S.drag))).x) (-16384) 16384)).set ((af t.S t.i)+3) (aF ((ao (aC (⟨(aq t.S M t.i).vx,(aq t.S M t.i).vy⟩:V2) t.S.g) (IntKind.i64.wrap (1024 - t.S.drag))).y) (-16384) 16384))).set 4 0):=by
      first | (simp only [aQ,bE,bI,bW,bV,if_neg h2,if_pos h41,if_neg h45,if_neg h63];done) | (simp only [aQ,bE,bI,bW,bV,if_neg h2,if_pos h41,if_neg h45,if_neg h63];rfl) | rfl
     rw [e]
     exact hM69.weak (by omega)
  ·refine ae 5 [] λ _=>RN.draw [] []<|ag [] [0,5,1,6,2,7,3,8,4,9,10,11] [.own 0,.own 0]<|RD.fin<|ae 1 [] λ _=>RN.em (IntKind.i64.wrap (t.i+1) < (t.S.nb:Int)) 141 (λ h70=>?_) λ h70=>?_
   ·refine ae 2 [] λ _=>RN.draw [11] []<|ag [] [0,4,1,5,2,6,3,7,8,9,10] [.own 0,.own 0]<|RD.one 11 (RDO.ct [] [] [0] (ai 2 (IntKind.i64.wrap (t.i+1)) hM) ?_)
    rintro _ T71 hM72
    refine RD.fin<|ae 1 [] λ _=>RN.ret [] [0] [0] (v:=.tuple #[]) (H':=(ap [(tb,.lit (Stp.l t mb) 140 (0,0))] [T71])) ?_
    refine ⟨T71,rfl,?_⟩
    have e:(aQ t M)=(M.set 2 (IntKind.i64.wrap (t.i+1))):=by
     first | (simp only [aQ,bE,bI,bW,bV,if_neg h2,if_neg h41,if_pos h70];done) | (simp only [aQ,bE,bI,bW,bV,if_neg h2,if_neg h41,if_pos h70];rfl) | rfl
    rw [e]
    exact hM72.weak (by omega)
   ·refine ae 6 [] λ _=>RN.ct [0] [0] (bH t 4 1 tb mb M (k+5) T _ hM hS.up ) ?_
    rintro _ T73 hM74
    refine ae 7 [.own 0] λ _=>RN.ct [] [0] (ai 4 0 hM74) ?_
    rintro _ T75 hM76
    refine ae 1 [] λ _=>RN.ret [] [0] [0] (v:=.tuple #[]) (H':=(ap [(tb,.lit (Stp.l t mb) 140 (0,0))] [T75])) ?_
    refine ⟨T75,rfl,?_⟩
    have e:(aQ t M)=((aM t 4 1 M).set 4 0):=by
     first | (simp only [aQ,bE,bI,bW,bV,if_neg h2,if_neg h41,if_neg h70];done) | (simp only [aQ,bE,bI,bW,bV,if_neg h2,if_neg h41,if_neg h70];rfl) | rfl
    rw [e]
    exact hM76.weak (by omega)
theorem xB (t:Stp)  (tb mb:Nat) (M:MemS) (k:Nat) (T F:HL) (hM:MemH mb M (k+4) T) (hS:SetIn F t.S) (hi:movP t.S t.i):Sp Tryz.prog 97 #[vP tb 0] (ap [(tb,.lit (Stp.l t mb) 140 (0,0))] [T]) F (λ u H'=>∃ x,H'=ap [(tb,.lit (Stp.l t mb) 140 (0,0))] [x] /\ (MemH mb (cZ t M) k x)):=by
 have hp:=hS.pl
 have hn:=hS.nb
 have hr:=hS.room
 refine Sp.run Tryz.func97 rfl (mc hS.blk mn) (A:=[(tb,.lit (Stp.l t mb) 140 (0,0))]) (Ts:=[T]) rfl λ w0=>?_
 refine ae 7 [.own 0] λ _=>aj (fq t t.i tb mb M _ T _ (aB 0) hS.up hM (aA 0) (movP.has hi))<|ae 10 (ow 0 5++[.own 1]) λ n1=>aj (aw 5 hM (aA 0))<|ae 6 [] λ _=>RN.draw [8] []<|ag [] [0,2,4,1,3] [.own 0,.own 0,.own 0,.own 0]<|ar [] 5 (λ X_=>(kC (⟨(aq t.S M t.i).vx,(aq t.S M t.i).vy⟩:V2) (if IntKind.i64.wrap ((M.get 5)+128) < 1024 then IntKind.i64.wrap ((M.get 5)+128) else 1024) 1024  _))<|ar [] 6 (λ X_=>(dT (⟨(aq t.S M t.i).px,(aq t.S M t.i).py⟩:V2) (ep (⟨(aq t.S M t.i).vx,(aq t.S M t.i).vy⟩:V2) (if IntKind.i64.wrap ((M.get 5)+128) < 1024 then IntKind.i64.wrap ((M.get 5)+128) else 1024) 1024)  _))<|RD.one 7 (RDO.ev [] [] λ n2=>?_)
 refine RD.one 8 (RDO.ev [] [.own 0,.own 0] λ _=>?_)
 refine RD.fin<|ae 2 [] λ _=>RN.draw [16] []<|ag [] [0,4,9,1,5,10,2,6,11,3,7,12,13] (ow 2 21)<|ar [] 8 (λ X_=>(bS t.S t.i _ hS.toSetN)) ?_
 have hb3:=cB hS.toSetN t.i
 refine RD.one 14 (RDO.ev [] [] λ n4=>?_)
 refine ag [] [15] []<|RD.one 16 (RDO.ev [] [.own 0,.own 0,.own 0,.own 0] λ _=>?_)
 refine RD.fin<|al 14 [.nw,.nw,.own 1,.own 0,.own 0] [br ((af t.S t.i)+2),br ((af t.S t.i)+0)] λ _=>RN.ct [3] [0] (sd t ((af t.S t.i)+0) ((af t.S t.i)+2) ((aC (⟨(aq t.S M t.i).px,(aq t.S M t.i).py⟩:V2) (ep (⟨(aq t.S M t.i).vx,(aq t.S M t.i).vy⟩:V2) (if IntKind.i64.wrap ((M.get 5)+128) < 1024 then IntKind.i64.wrap ((M.get 5)+128) else 1024) 1024)).x) t.S.box.x0 t.S.box.x1 tb mb M (k+2) T _ hM hS.up ) ?_
 rintro _ T5 hM6
 refine al 14 [.nw,.nw,.own 2,.own 1,.own 1] [br ((af t.S t.i)+3),br ((af t.S t.i)+1)] λ _=>RN.ct [0] [0] (sd t ((af t.S t.i)+1) ((af t.S t.i)+3) ((aC (⟨(aq t.S M t.i).px,(aq t.S M t.i).py⟩:V2) (ep (⟨(aq t.S M t.i).vx,(aq t.S M t.i).vy⟩:V2) (if IntKind.i64.wrap ((M.get 5)+128) < 1024 then IntKind.i64.wrap ((M.get 5)+128) else 1024) 1024)).y) t.S.box.y0 t.S.box.y1 tb mb (dU t ((af t.S t.i)+0) ((af t.S t.i)+2) ((aC (⟨(aq t.S M t.i).px,(aq t.S M t.i).py⟩:V2) (ep (⟨(aq t.S M t.i).vx,(aq t.S M t.i).vy⟩:V2) (if IntKind.i64.wrap ((M.get 5)+128) < 1024 then IntKind.i64.wrap ((M.get 5)+128) else 1024) 1024)).x) t.S.box.x0 t.S.box.x1 M) k T5 _ hM6 hS.up ) ?_
 rintro _ T7 hM8
 refine ae 1 [] λ _=>RN.ret [] [0] [0] (v:=.tuple #[]) (H':=(ap [(tb,.lit (Stp.l t mb) 140 (0,0))] [T7])) ?_
 refine ⟨T7,rfl,?_⟩
 have e:(cZ t M)=(dU t ((af t.S t.i)+1) ((af t.S t.i)+3) ((aC (⟨(aq t.S M t.i).px,(aq t.S M t.i).py⟩:V2) (ep (⟨(aq t.S M t.i).vx,(aq t.S M t.i).vy⟩:V2) (if IntKind.i64.wrap ((M.get 5)+128) < 1024 then IntKind.i64.wrap ((M.get 5)+128) else 1024) 1024)).y) t.S.box.y0 t.S.box.y1 (dU t ((af t.S t.i)+0) ((af t.S t.i)+2) ((aC (⟨(aq t.S M t.i).px,(aq t.S M t.i).py⟩:V2) (ep (⟨(aq t.S M t.i).vx,(aq t.S M t.i).vy⟩:V2) (if IntKind.i64.wrap ((M.get 5)+128) < 1024 then IntKind.i64.wrap ((M.get 5)+128) else 1024) 1024)).x) t.S.box.x0 t.S.box.x1 M)):=by
  first | (simp only [cZ,gc,lh,if_pos hi];done) | (simp only [cZ,gc,lh,if_pos hi];rfl) | rfl
 rw [e]
 exact hM8.weak (by omega)
end Go.Proofs.YtghjbimijeinfaaGreatDoor
