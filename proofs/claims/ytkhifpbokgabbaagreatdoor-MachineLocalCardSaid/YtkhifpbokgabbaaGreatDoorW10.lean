import Derived.Test.YtkhifpbokgabbaaGreatDoorW09
set_option maxHeartbeats 4000000
set_option maxRecDepth 100000
set_option linter.unusedSimpArgs false
set_option linter.unusedVariables false
namespace Go.Proofs.YtkhifpbokgabbaaGreatDoor
open Go.RowKit
variable {K:Kd} {D:Int -> Prop}
def restB (t:Stp):Bool:=if w64 (t.i+1) < t.S.nb then t.ended else true
def restA (t:Stp) (M:MemS):MemS:=if bodyAt t.S t.i >= 0 then M.set (bodyAt t.S t.i+7) (if M.get (bodyAt t.S t.i+2)=0 then if M.get (bodyAt t.S t.i+3)=0 then (if 1000 < w64 (M.get (bodyAt t.S t.i+7)+1) then 1000 else w64 (M.get (bodyAt t.S t.i+7)+1)) else 0 else 0) else M
def zeroTo (M:MemS):Nat -> MemS
 | 0=>M
 | n+1=>(zeroTo M n).set ((n+1:Nat):Int) 0
def restC (t:Stp) (M:MemS):MemS:=if w64 (t.i+1) < t.S.nb then M.set 2 (w64 (t.i+1)) else zeroTo (M.set 0 (w64 (M.get 0+1))) 10
def restM (t:Stp) (M:MemS):MemS:=restC t (restA t M)
def forceV (t:Stp) (M:MemS):V2:=vscale (if playerAt t.S t.i >= 0 then vadd (vadd ⟨(motM t.S M t.i).vx,(motM t.S M t.i).vy⟩ t.S.g) ⟨w64 (M.get (playerAt t.S t.i+0) * t.S.push),w64 (M.get (playerAt t.S t.i+1) * t.S.push)⟩ else vadd ⟨(motM t.S M t.i).vx,(motM t.S M t.i).vy⟩ t.S.g) (w64 (1024 - t.S.drag))
def forceA (t:Stp) (M:MemS):MemS:=if bodyAt t.S t.i >= 0 then M.set (bodyAt t.S t.i+6) 0 else M
def forceB (t:Stp) (M:MemS):MemS:=if movP t.S t.i then (M.set (bodyAt t.S t.i+2) (clampI (forceV t M).x (-16384) 16384)).set (bodyAt t.S t.i+3) (clampI (forceV t M).y (-16384) 16384) else M
def forceC (t:Stp) (M:MemS):MemS:=if w64 (t.i+1) < t.S.nb then M.set 2 (w64 (t.i+1)) else (beginM t 4 1 M).set 4 0
def forceM (t:Stp) (M:MemS):MemS:=forceC t (forceB t (forceA t M))
def travelF (M:MemS):Int:=if w64 (M.get 5+128) < 1024 then w64 (M.get 5+128) else 1024
def travelP (t:Stp) (M:MemS):V2:=vadd ⟨(motM t.S M t.i).px,(motM t.S M t.i).py⟩ (vmuldiv ⟨(motM t.S M t.i).vx,(motM t.S M t.i).vy⟩ (travelF M) 1024)
def travelM (t:Stp) (M:MemS):MemS:=placeM t (bodyAt t.S t.i+1) (bodyAt t.S t.i+3) (travelP t M).y t.S.box.y0 t.S.box.y1 (placeM t (bodyAt t.S t.i+0) (bodyAt t.S t.i+2) (travelP t M).x t.S.box.x0 t.S.box.x1 M)
theorem force_any (t:Stp)  (tb mb:Nat) (M:MemS) (k:Nat) (T F:HL) (hM:MemK K D mb M (k+8) T) (hS:SetIn F t.S)  (hl:DLo D) (hpl:DPl D t.S t.i) (hbi:DBd D t.S t.i) :Sp Tryz.prog 28 #[vP tb 0] (ap [(tb,.lit (Stp.l K t mb) 94 (0,0))] [T]) F (λ u H'=>∃ x,H'=ap [(tb,.lit (Stp.l K t mb) 94 (0,0))] [x] /\ (MemK K D mb (forceM t M) k x)):=by
 have hp:=hS.pl
 have hn:=hS.nb
 have hr:=hS.room
 refine Sp.run Tryz.func28 rfl (mc hS.blk mn) (A:=[(tb,.lit (Stp.l K t mb) 94 (0,0))]) (Ts:=[T]) rfl λ w0=>?_
 refine RN.go 2 [] λ _=>RN.draw [] []<|RD.go [] [0,4,1,5,2,6,3,7] (ow 0 17)<|RD.cp [] 8 (λ X_=>(lbody_any t.S t.i _ hS.toSetN)) ?_
 have hb1:=bodyAt_bd hS.toSetN t.i
 refine RD.go [] [9] []<|RD.fin<|RN.go 7 [] λ _=>RN.em (bodyAt t.S t.i >= 0) 19 (λ h2=>?_) λ h2=>?_
 ·refine RN.goP 8 [.own 0,.nw] [I64 ((bodyAt t.S t.i)+6)] λ _=>RN.ctK [] [0] (set_any ((bodyAt t.S t.i)+6) 0 hM (hbi h2 6 (by decide) (by decide))) ?_
  rintro _ T3 hM4
  refine RN.go 10 [.own 0] λ _=>RN.cp (movable_any (K:=K) t t.i tb mb _ (in_ap 0) hS.up)<|RN.go 2 [] λ _=>RN.em (movP t.S t.i) 32 (λ h5=>?_) λ h5=>?_
  ·have:=movP.has h5
   refine RN.go 8 [.own 0] λ _=>RN.cp (motion_any t t.i tb mb (M.set ((bodyAt t.S t.i)+6) 0) _ T3 _ (in_ap 0) hS.up hM4 (sub_ap 0) (movP.has h5) (hbi h2))<|RN.go 5 (ow 0 5) λ n6=>RN.draw [9] []<|RD.go [] [0,2,1,3,4,5,6] [.own 0,.own 0,.own 1,.own 1]<|RD.cp [] 7 (λ X_=>(vadd_any (⟨(motM t.S (M.set ((bodyAt t.S t.i)+6) 0) t.i).vx,(motM t.S (M.set ((bodyAt t.S t.i)+6) 0) t.i).vy⟩:V2) t.S.g  _))<|RD.one 8 (RDO.ev [] [] λ n7=>?_)
   refine RD.one 9 (RDO.ev [] [.own 0,.own 0] λ _=>?_)
   refine RD.fin<|RN.go 3 [] λ _=>RN.draw [] []<|RD.go [] [0,4,1,5,2,6,3,7] (ow 2 17)<|RD.cp [] 8 (λ X_=>(lplayer_any t.S t.i _ hS.toSetN)) ?_
   have hb8:=playerAt_bd hS.toSetN t.i
   refine RD.go [] [9] []<|RD.fin<|RN.go 7 [] λ _=>RN.em (playerAt t.S t.i >= 0) 57 (λ h9=>?_) λ h9=>?_
   ·refine RN.go 2 [] λ _=>RN.draw [] []<|RD.goP [] [0,4,7,11,1,5,8,12,2,9,3,10] [.nw,.nw,.own 2,.own 2] [I64 ((playerAt t.S t.i)+1),I64 ((playerAt t.S t.i)+0)]<|RD.cpK [] 6 (λ X_=>(get_any ((playerAt t.S t.i)+0) hM4 (hpl h9 0 (by decide) (by decide)) (sub_apX 0)))<|RD.cpK [] 13 (λ X_=>(get_any ((playerAt t.S t.i)+1) hM4 (hpl h9 1 (by decide) (by decide)) (sub_apX 0)))<|RD.go [] [14,15] []<|RD.fin<|RN.go 1 [] λ _=>RN.draw [17] []<|RD.go [] [0,1,2,8,9,3,10,4,11,5,12,6,13,7,14,15] [.own 0,.own 0,.own 2,.own 2]<|RD.cp [] 16 (λ X_=>(vadd_any (vadd (⟨(motM t.S (M.set ((bodyAt t.S t.i)+6) 0) t.i).vx,(motM t.S (M.set ((bodyAt t.S t.i)+6) 0) t.i).vy⟩:V2) t.S.g) (⟨IntKind.i64.wrap (((M.set ((bodyAt t.S t.i)+6) 0).get ((playerAt t.S t.i)+0)) * t.S.push),IntKind.i64.wrap (((M.set ((bodyAt t.S t.i)+6) 0).get ((playerAt t.S t.i)+1)) * t.S.push)⟩:V2)  _))<|RD.one 17 (RDO.ev [] [.own 0,.own 0] λ _=>?_)
    refine RD.fin<|RN.go 2 [] λ _=>RN.draw [8] []<|RD.go [] [0,1,2,3,4,5,6] [.own 0,.own 0,.own 2]<|RD.cp [] 7 (λ X_=>(vscale_any (vadd (vadd (⟨(motM t.S (M.set ((bodyAt t.S t.i)+6) 0) t.i).vx,(motM t.S (M.set ((bodyAt t.S t.i)+6) 0) t.i).vy⟩:V2) t.S.g) (⟨IntKind.i64.wrap (((M.set ((bodyAt t.S t.i)+6) 0).get ((playerAt t.S t.i)+0)) * t.S.push),IntKind.i64.wrap (((M.set ((bodyAt t.S t.i)+6) 0).get ((playerAt t.S t.i)+1)) * t.S.push)⟩:V2)) (IntKind.i64.wrap (1024 - t.S.drag))  _))<|RD.one 8 (RDO.ev [] [.own 0,.own 0] λ _=>?_)
    refine RD.fin<|RN.go 2 [] λ _=>RN.draw [] []<|RD.go [] [0,4,1,5,2,6,3,7] (ow 2 17)<|RD.cp [] 8 (λ X_=>(lbody_any t.S t.i _ hS.toSetN)) ?_
    have hb10:=bodyAt_bd hS.toSetN t.i
    refine RD.go [] [9] []<|RD.fin<|RN.go 2 [] λ _=>RN.draw [11] []<|RD.goP [] [0,4,6,1,5,7,2,3,9,10] [.nw,.own 0,.own 2] [I64 ((bodyAt t.S t.i)+2)]<|RD.cp [] 8 (λ X_=>(clamp_any ((vscale (vadd (vadd (⟨(motM t.S (M.set ((bodyAt t.S t.i)+6) 0) t.i).vx,(motM t.S (M.set ((bodyAt t.S t.i)+6) 0) t.i).vy⟩:V2) t.S.g) (⟨IntKind.i64.wrap (((M.set ((bodyAt t.S t.i)+6) 0).get ((playerAt t.S t.i)+0)) * t.S.push),IntKind.i64.wrap (((M.set ((bodyAt t.S t.i)+6) 0).get ((playerAt t.S t.i)+1)) * t.S.push)⟩:V2)) (IntKind.i64.wrap (1024 - t.S.drag))).x) (-16384) 16384  _))<|RD.one 11 (RDO.ctK [] [] [0] (set_any ((bodyAt t.S t.i)+2) (clampI ((vscale (vadd (vadd (⟨(motM t.S (M.set ((bodyAt t.S t.i)+6) 0) t.i).vx,(motM t.S (M.set ((bodyAt t.S t.i)+6) 0) t.i).vy⟩:V2) t.S.g) (⟨IntKind.i64.wrap (((M.set ((bodyAt t.S t.i)+6) 0).get ((playerAt t.S t.i)+0)) * t.S.push),IntKind.i64.wrap (((M.set ((bodyAt t.S t.i)+6) 0).get ((playerAt t.S t.i)+1)) * t.S.push)⟩:V2)) (IntKind.i64.wrap (1024 - t.S.drag))).x) (-16384) 16384) hM4 (hbi h2 2 (by decide) (by decide))) ?_)
    rintro _ T11 hM12
    refine RD.fin<|RN.go 1 [] λ _=>RN.draw [11] []<|RD.goP [] [0,4,6,1,5,7,2,3,9,10] [.nw,.own 0,.own 2] [I64 ((bodyAt t.S t.i)+3)]<|RD.cp [] 8 (λ X_=>(clamp_any ((vscale (vadd (vadd (⟨(motM t.S (M.set ((bodyAt t.S t.i)+6) 0) t.i).vx,(motM t.S (M.set ((bodyAt t.S t.i)+6) 0) t.i).vy⟩:V2) t.S.g) (⟨IntKind.i64.wrap (((M.set ((bodyAt t.S t.i)+6) 0).get ((playerAt t.S t.i)+0)) * t.S.push),IntKind.i64.wrap (((M.set ((bodyAt t.S t.i)+6) 0).get ((playerAt t.S t.i)+1)) * t.S.push)⟩:V2)) (IntKind.i64.wrap (1024 - t.S.drag))).y) (-16384) 16384  _))<|RD.one 11 (RDO.ctK [] [] [0] (set_any ((bodyAt t.S t.i)+3) (clampI ((vscale (vadd (vadd (⟨(motM t.S (M.set ((bodyAt t.S t.i)+6) 0) t.i).vx,(motM t.S (M.set ((bodyAt t.S t.i)+6) 0) t.i).vy⟩:V2) t.S.g) (⟨IntKind.i64.wrap (((M.set ((bodyAt t.S t.i)+6) 0).get ((playerAt t.S t.i)+0)) * t.S.push),IntKind.i64.wrap (((M.set ((bodyAt t.S t.i)+6) 0).get ((playerAt t.S t.i)+1)) * t.S.push)⟩:V2)) (IntKind.i64.wrap (1024 - t.S.drag))).y) (-16384) 16384) hM12 (hbi h2 3 (by decide) (by decide))) ?_)
    rintro _ T13 hM14
    refine RD.fin<|RN.go 3 [] λ _=>RN.draw [] []<|RD.go [] [0,5,1,6,2,7,3,8,4,9,10,11] [.own 2,.own 2]<|RD.fin<|RN.go 1 [] λ _=>RN.em (IntKind.i64.wrap (t.i+1) < (t.S.nb:Int)) 141 (λ h15=>?_) λ h15=>?_
    ·refine RN.go 2 [] λ _=>RN.draw [11] []<|RD.go [] [0,4,1,5,2,6,3,7,8,9,10] [.own 2,.own 2]<|RD.one 11 (RDO.ctK [] [] [0] (set_any 2 (IntKind.i64.wrap (t.i+1)) hM14 (hl 2 (by decide) (by decide))) ?_)
     rintro _ T16 hM17
     refine RD.fin<|RN.go 1 [] λ _=>RN.ret [] [2] [0] (v:=.tuple #[]) (H':=(ap [(tb,.lit (Stp.l K t mb) 94 (0,0))] [T16])) ?_
     refine ⟨T16,rfl,?_⟩
     have e:(forceM t M)=((((M.set ((bodyAt t.S t.i)+6) 0).set ((bodyAt t.S t.i)+2) (clampI ((vscale (vadd (vadd (⟨(motM t.S (M.set ((bodyAt t.S t.i)+6) 0) t.i).vx,(motM t.S (M.set ((bodyAt t.S t.i)+6) 0) t.i).vy⟩:V2) t.S.g) (⟨IntKind.i64.wrap (((M.set ((bodyAt t.S t.i)+6) 0).get ((playerAt t.S t.i)+0)) * t.S.push),IntKind.i64.wrap (((M.set ((bodyAt t.S t.i)+6) 0).get ((playerAt t.S t.i)+1)) * t.S.push)⟩:V2)) (IntKind.i64.wrap (1024 - t.S.drag))).x) (-16384) 16384)).set ((bodyAt t.S t.i)+3) (clampI ((vscale (vadd (vadd (⟨(motM t.S (M.set ((bodyAt t.S t.i)+6) 0) t.i).vx,(motM t.S (M.set ((bodyAt t.S t.i)+6) 0) t.i).vy⟩:V2) t.S.g) (⟨IntKind.i64.wrap (((M.set ((bodyAt t.S t.i)+6) 0).get ((playerAt t.S t.i)+0)) * t.S.push),IntKind.i64.wrap (((M.set ((bodyAt t.S t.i)+6) 0).get ((playerAt t.S t.i)+1)) * t.S.push)⟩:V2)) (IntKind.i64.wrap (1024 - t.S.drag))).y) (-16384) 16384)).set 2 (IntKind.i64.wrap (t.i+1))):=by
      first | (simp only [forceM,forceA,forceB,forceC,forceV,if_pos h2,if_pos h5,if_pos h9,if_pos h15];done) | (simp only [forceM,forceA,forceB,forceC,forceV,if_pos h2,if_pos h5,if_pos h9,if_pos h15];rfl) | rfl
     rw [e]
     exact hM17.weak (by omega)
    ·refine RN.go 6 [] λ _=>RN.ct [2] [0] (begin_any t 4 1 tb mb (((M.set ((bodyAt t.S t.i)+6) 0).set ((bodyAt t.S t.i)+2) (clampI ((vscale (vadd (vadd (⟨(motM t.S (M.set ((bodyAt t.S t.i)+6) 0) t.i).vx,(motM t.S (M.set ((bodyAt t.S t.i)+6) 0) t.i).vy⟩:V2) t.S.g) (⟨IntKind.i64.wrap (((M.set ((bodyAt t.S t.i)+6) 0).get ((playerAt t.S t.i)+0)) * t.S.push),IntKind.i64.wrap (((M.set ((bodyAt t.S t.i)+6) 0).get ((playerAt t.S t.i)+1)) * t.S.push)⟩:V2)) (IntKind.i64.wrap (1024 - t.S.drag))).x) (-16384) 16384)).set ((bodyAt t.S t.i)+3) (clampI ((vscale (vadd (vadd (⟨(motM t.S (M.set ((bodyAt t.S t.i)+6) 0) t.i).vx,(motM t.S (M.set ((bodyAt t.S t.i)+6) 0) t.i).vy⟩:V2) t.S.g) (⟨IntKind.i64.wrap (((M.set ((bodyAt t.S t.i)+6) 0).get ((playerAt t.S t.i)+0)) * t.S.push),IntKind.i64.wrap (((M.set ((bodyAt t.S t.i)+6) 0).get ((playerAt t.S t.i)+1)) * t.S.push)⟩:V2)) (IntKind.i64.wrap (1024 - t.S.drag))).y) (-16384) 16384)) (k+2) T13 _ hM14 hS.up hl) ?_
     rintro _ T18 hM19
     refine RN.go 7 [.own 0] λ _=>RN.ctK [] [0] (set_any 4 0 hM19 (hl 4 (by decide) (by decide))) ?_
     rintro _ T20 hM21
     refine RN.go 1 [] λ _=>RN.ret [] [0] [0] (v:=.tuple #[]) (H':=(ap [(tb,.lit (Stp.l K t mb) 94 (0,0))] [T20])) ?_
     refine ⟨T20,rfl,?_⟩
     have e:(forceM t M)=((beginM t 4 1 (((M.set ((bodyAt t.S t.i)+6) 0).set ((bodyAt t.S t.i)+2) (clampI ((vscale (vadd (vadd (⟨(motM t.S (M.set ((bodyAt t.S t.i)+6) 0) t.i).vx,(motM t.S (M.set ((bodyAt t.S t.i)+6) 0) t.i).vy⟩:V2) t.S.g) (⟨IntKind.i64.wrap (((M.set ((bodyAt t.S t.i)+6) 0).get ((playerAt t.S t.i)+0)) * t.S.push),IntKind.i64.wrap (((M.set ((bodyAt t.S t.i)+6) 0).get ((playerAt t.S t.i)+1)) * t.S.push)⟩:V2)) (IntKind.i64.wrap (1024 - t.S.drag))).x) (-16384) 16384)).set ((bodyAt t.S t.i)+3) (clampI ((vscale (vadd (vadd (⟨(motM t.S (M.set ((bodyAt t.S t.i)+6) 0) t.i).vx,(motM t.S (M.set ((bodyAt t.S t.i)+6) 0) t.i).vy⟩:V2) t.S.g) (⟨IntKind.i64.wrap (((M.set ((bodyAt t.S t.i)+6) 0).get ((playerAt t.S t.i)+0)) * t.S.push),IntKind.i64.wrap (((M.set ((bodyAt t.S t.i)+6) 0).get ((playerAt t.S t.i)+1)) * t.S.push)⟩:V2)) (IntKind.i64.wrap (1024 - t.S.drag))).y) (-16384) 16384))).set 4 0):=by
      first | (simp only [forceM,forceA,forceB,forceC,forceV,if_pos h2,if_pos h5,if_pos h9,if_neg h15];done) | (simp only [forceM,forceA,forceB,forceC,forceV,if_pos h2,if_pos h5,if_pos h9,if_neg h15];rfl) | rfl
     rw [e]
     exact hM21.weak (by omega)
   ·refine RN.go 4 [] λ _=>RN.draw [8] []<|RD.go [] [0,1,2,3,4,5,6] [.own 0,.own 0,.own 2]<|RD.cp [] 7 (λ X_=>(vscale_any (vadd (⟨(motM t.S (M.set ((bodyAt t.S t.i)+6) 0) t.i).vx,(motM t.S (M.set ((bodyAt t.S t.i)+6) 0) t.i).vy⟩:V2) t.S.g) (IntKind.i64.wrap (1024 - t.S.drag))  _))<|RD.one 8 (RDO.ev [] [.own 0,.own 0] λ _=>?_)
    refine RD.fin<|RN.go 2 [] λ _=>RN.draw [] []<|RD.go [] [0,4,1,5,2,6,3,7] (ow 2 17)<|RD.cp [] 8 (λ X_=>(lbody_any t.S t.i _ hS.toSetN)) ?_
    have hb22:=bodyAt_bd hS.toSetN t.i
    refine RD.go [] [9] []<|RD.fin<|RN.go 2 [] λ _=>RN.draw [11] []<|RD.goP [] [0,4,6,1,5,7,2,3,9,10] [.nw,.own 0,.own 2] [I64 ((bodyAt t.S t.i)+2)]<|RD.cp [] 8 (λ X_=>(clamp_any ((vscale (vadd (⟨(motM t.S (M.set ((bodyAt t.S t.i)+6) 0) t.i).vx,(motM t.S (M.set ((bodyAt t.S t.i)+6) 0) t.i).vy⟩:V2) t.S.g) (IntKind.i64.wrap (1024 - t.S.drag))).x) (-16384) 16384  _))<|RD.one 11 (RDO.ctK [] [] [0] (set_any ((bodyAt t.S t.i)+2) (clampI ((vscale (vadd (⟨(motM t.S (M.set ((bodyAt t.S t.i)+6) 0) t.i).vx,(motM t.S (M.set ((bodyAt t.S t.i)+6) 0) t.i).vy⟩:V2) t.S.g) (IntKind.i64.wrap (1024 - t.S.drag))).x) (-16384) 16384) hM4 (hbi h2 2 (by decide) (by decide))) ?_)
    rintro _ T23 hM24
    refine RD.fin<|RN.go 1 [] λ _=>RN.draw [11] []<|RD.goP [] [0,4,6,1,5,7,2,3,9,10] [.nw,.own 0,.own 2] [I64 ((bodyAt t.S t.i)+3)]<|RD.cp [] 8 (λ X_=>(clamp_any ((vscale (vadd (⟨(motM t.S (M.set ((bodyAt t.S t.i)+6) 0) t.i).vx,(motM t.S (M.set ((bodyAt t.S t.i)+6) 0) t.i).vy⟩:V2) t.S.g) (IntKind.i64.wrap (1024 - t.S.drag))).y) (-16384) 16384  _))<|RD.one 11 (RDO.ctK [] [] [0] (set_any ((bodyAt t.S t.i)+3) (clampI ((vscale (vadd (⟨(motM t.S (M.set ((bodyAt t.S t.i)+6) 0) t.i).vx,(motM t.S (M.set ((bodyAt t.S t.i)+6) 0) t.i).vy⟩:V2) t.S.g) (IntKind.i64.wrap (1024 - t.S.drag))).y) (-16384) 16384) hM24 (hbi h2 3 (by decide) (by decide))) ?_)
    rintro _ T25 hM26
    refine RD.fin<|RN.go 3 [] λ _=>RN.draw [] []<|RD.go [] [0,5,1,6,2,7,3,8,4,9,10,11] [.own 2,.own 2]<|RD.fin<|RN.go 1 [] λ _=>RN.em (IntKind.i64.wrap (t.i+1) < (t.S.nb:Int)) 141 (λ h27=>?_) λ h27=>?_
    ·refine RN.go 2 [] λ _=>RN.draw [11] []<|RD.go [] [0,4,1,5,2,6,3,7,8,9,10] [.own 2,.own 2]<|RD.one 11 (RDO.ctK [] [] [0] (set_any 2 (IntKind.i64.wrap (t.i+1)) hM26 (hl 2 (by decide) (by decide))) ?_)
     rintro _ T28 hM29
     refine RD.fin<|RN.go 1 [] λ _=>RN.ret [] [2] [0] (v:=.tuple #[]) (H':=(ap [(tb,.lit (Stp.l K t mb) 94 (0,0))] [T28])) ?_
     refine ⟨T28,rfl,?_⟩
     have e:(forceM t M)=((((M.set ((bodyAt t.S t.i)+6) 0).set ((bodyAt t.S t.i)+2) (clampI ((vscale (vadd (⟨(motM t.S (M.set ((bodyAt t.S t.i)+6) 0) t.i).vx,(motM t.S (M.set ((bodyAt t.S t.i)+6) 0) t.i).vy⟩:V2) t.S.g) (IntKind.i64.wrap (1024 - t.S.drag))).x) (-16384) 16384)).set ((bodyAt t.S t.i)+3) (clampI ((vscale (vadd (⟨(motM t.S (M.set ((bodyAt t.S t.i)+6) 0) t.i).vx,(motM t.S (M.set ((bodyAt t.S t.i)+6) 0) t.i).vy⟩:V2) t.S.g) (IntKind.i64.wrap (1024 - t.S.drag))).y) (-16384) 16384)).set 2 (IntKind.i64.wrap (t.i+1))):=by
      first | (simp only [forceM,forceA,forceB,forceC,forceV,if_pos h2,if_pos h5,if_neg h9,if_pos h27];done) | (simp only [forceM,forceA,forceB,forceC,forceV,if_pos h2,if_pos h5,if_neg h9,if_pos h27];rfl) | rfl
     rw [e]
     exact hM29.weak (by omega)
    ·refine RN.go 6 [] λ _=>RN.ct [2] [0] (begin_any t 4 1 tb mb (((M.set ((bodyAt t.S t.i)+6) 0).set ((bodyAt t.S t.i)+2) (clampI ((vscale (vadd (⟨(motM t.S (M.set ((bodyAt t.S t.i)+6) 0) t.i).vx,(motM t.S (M.set ((bodyAt t.S t.i)+6) 0) t.i).vy⟩:V2) t.S.g) (IntKind.i64.wrap (1024 - t.S.drag))).x) (-16384) 16384)).set ((bodyAt t.S t.i)+3) (clampI ((vscale (vadd (⟨(motM t.S (M.set ((bodyAt t.S t.i)+6) 0) t.i).vx,(motM t.S (M.set ((bodyAt t.S t.i)+6) 0) t.i).vy⟩:V2) t.S.g) (IntKind.i64.wrap (1024 - t.S.drag))).y) (-16384) 16384)) (k+2) T25 _ hM26 hS.up hl) ?_
     rintro _ T30 hM31
     refine RN.go 7 [.own 0] λ _=>RN.ctK [] [0] (set_any 4 0 hM31 (hl 4 (by decide) (by decide))) ?_
     rintro _ T32 hM33
     refine RN.go 1 [] λ _=>RN.ret [] [0] [0] (v:=.tuple #[]) (H':=(ap [(tb,.lit (Stp.l K t mb) 94 (0,0))] [T32])) ?_
     refine ⟨T32,rfl,?_⟩
     have e:(forceM t M)=((beginM t 4 1 (((M.set ((bodyAt t.S t.i)+6) 0).set ((bodyAt t.S t.i)+2) (clampI ((vscale (vadd (⟨(motM t.S (M.set ((bodyAt t.S t.i)+6) 0) t.i).vx,(motM t.S (M.set ((bodyAt t.S t.i)+6) 0) t.i).vy⟩:V2) t.S.g) (IntKind.i64.wrap (1024 - t.S.drag))).x) (-16384) 16384)).set ((bodyAt t.S t.i)+3) (clampI ((vscale (vadd (⟨(motM t.S (M.set ((bodyAt t.S t.i)+6) 0) t.i).vx,(motM t.S (M.set ((bodyAt t.S t.i)+6) 0) t.i).vy⟩:V2) t.S.g) (IntKind.i64.wrap (1024 - t.S.drag))).y) (-16384) 16384))).set 4 0):=by
      first | (simp only [forceM,forceA,forceB,forceC,forceV,if_pos h2,if_pos h5,if_neg h9,if_neg h27];done) | (simp only [forceM,forceA,forceB,forceC,forceV,if_pos h2,if_pos h5,if_neg h9,if_neg h27];rfl) | rfl
     rw [e]
     exact hM33.weak (by omega)
  ·refine RN.go 5 [] λ _=>RN.draw [] []<|RD.go [] [0,5,1,6,2,7,3,8,4,9,10,11] [.own 0,.own 0]<|RD.fin<|RN.go 1 [] λ _=>RN.em (IntKind.i64.wrap (t.i+1) < (t.S.nb:Int)) 141 (λ h34=>?_) λ h34=>?_
   ·refine RN.go 2 [] λ _=>RN.draw [11] []<|RD.go [] [0,4,1,5,2,6,3,7,8,9,10] [.own 0,.own 0]<|RD.one 11 (RDO.ctK [] [] [0] (set_any 2 (IntKind.i64.wrap (t.i+1)) hM4 (hl 2 (by decide) (by decide))) ?_)
    rintro _ T35 hM36
    refine RD.fin<|RN.go 1 [] λ _=>RN.ret [] [0] [0] (v:=.tuple #[]) (H':=(ap [(tb,.lit (Stp.l K t mb) 94 (0,0))] [T35])) ?_
    refine ⟨T35,rfl,?_⟩
    have e:(forceM t M)=((M.set ((bodyAt t.S t.i)+6) 0).set 2 (IntKind.i64.wrap (t.i+1))):=by
     first | (simp only [forceM,forceA,forceB,forceC,forceV,if_pos h2,if_neg h5,if_pos h34];done) | (simp only [forceM,forceA,forceB,forceC,forceV,if_pos h2,if_neg h5,if_pos h34];rfl) | rfl
    rw [e]
    exact hM36.weak (by omega)
   ·refine RN.go 6 [] λ _=>RN.ct [0] [0] (begin_any t 4 1 tb mb (M.set ((bodyAt t.S t.i)+6) 0) (k+4) T3 _ hM4 hS.up hl) ?_
    rintro _ T37 hM38
    refine RN.go 7 [.own 0] λ _=>RN.ctK [] [0] (set_any 4 0 hM38 (hl 4 (by decide) (by decide))) ?_
    rintro _ T39 hM40
    refine RN.go 1 [] λ _=>RN.ret [] [0] [0] (v:=.tuple #[]) (H':=(ap [(tb,.lit (Stp.l K t mb) 94 (0,0))] [T39])) ?_
    refine ⟨T39,rfl,?_⟩
    have e:(forceM t M)=((beginM t 4 1 (M.set ((bodyAt t.S t.i)+6) 0)).set 4 0):=by
     first | (simp only [forceM,forceA,forceB,forceC,forceV,if_pos h2,if_neg h5,if_neg h34];done) | (simp only [forceM,forceA,forceB,forceC,forceV,if_pos h2,if_neg h5,if_neg h34];rfl) | rfl
    rw [e]
    exact hM40.weak (by omega)
 ·refine RN.go 11 [.own 0] λ _=>RN.cp (movable_any (K:=K) t t.i tb mb _ (in_ap 0) hS.up)<|RN.go 2 [] λ _=>RN.em (movP t.S t.i) 32 (λ h41=>?_) λ h41=>?_
  ·have:=movP.has h41
   refine RN.go 8 [.own 0] λ _=>RN.cp (motion_any t t.i tb mb M _ T _ (in_ap 0) hS.up hM (sub_ap 0) (movP.has h41) (hbi (bodyAt_nn hS.toSetN (movP.has h41))))<|RN.go 5 (ow 0 5) λ n42=>RN.draw [9] []<|RD.go [] [0,2,1,3,4,5,6] [.own 0,.own 0,.own 1,.own 1]<|RD.cp [] 7 (λ X_=>(vadd_any (⟨(motM t.S M t.i).vx,(motM t.S M t.i).vy⟩:V2) t.S.g  _))<|RD.one 8 (RDO.ev [] [] λ n43=>?_)
   refine RD.one 9 (RDO.ev [] [.own 0,.own 0] λ _=>?_)
   refine RD.fin<|RN.go 3 [] λ _=>RN.draw [] []<|RD.go [] [0,4,1,5,2,6,3,7] (ow 2 17)<|RD.cp [] 8 (λ X_=>(lplayer_any t.S t.i _ hS.toSetN)) ?_
   have hb44:=playerAt_bd hS.toSetN t.i
   refine RD.go [] [9] []<|RD.fin<|RN.go 7 [] λ _=>RN.em (playerAt t.S t.i >= 0) 57 (λ h45=>?_) λ h45=>?_
   ·refine RN.go 2 [] λ _=>RN.draw [] []<|RD.goP [] [0,4,7,11,1,5,8,12,2,9,3,10] [.nw,.nw,.own 2,.own 2] [I64 ((playerAt t.S t.i)+1),I64 ((playerAt t.S t.i)+0)]<|RD.cpK [] 6 (λ X_=>(get_any ((playerAt t.S t.i)+0) hM (hpl h45 0 (by decide) (by decide)) (sub_apX 0)))<|RD.cpK [] 13 (λ X_=>(get_any ((playerAt t.S t.i)+1) hM (hpl h45 1 (by decide) (by decide)) (sub_apX 0)))<|RD.go [] [14,15] []<|RD.fin<|RN.go 1 [] λ _=>RN.draw [17] []<|RD.go [] [0,1,2,8,9,3,10,4,11,5,12,6,13,7,14,15] [.own 0,.own 0,.own 2,.own 2]<|RD.cp [] 16 (λ X_=>(vadd_any (vadd (⟨(motM t.S M t.i).vx,(motM t.S M t.i).vy⟩:V2) t.S.g) (⟨IntKind.i64.wrap ((M.get ((playerAt t.S t.i)+0)) * t.S.push),IntKind.i64.wrap ((M.get ((playerAt t.S t.i)+1)) * t.S.push)⟩:V2)  _))<|RD.one 17 (RDO.ev [] [.own 0,.own 0] λ _=>?_)
    refine RD.fin<|RN.go 2 [] λ _=>RN.draw [8] []<|RD.go [] [0,1,2,3,4,5,6] [.own 0,.own 0,.own 2]<|RD.cp [] 7 (λ X_=>(vscale_any (vadd (vadd (⟨(motM t.S M t.i).vx,(motM t.S M t.i).vy⟩:V2) t.S.g) (⟨IntKind.i64.wrap ((M.get ((playerAt t.S t.i)+0)) * t.S.push),IntKind.i64.wrap ((M.get ((playerAt t.S t.i)+1)) * t.S.push)⟩:V2)) (IntKind.i64.wrap (1024 - t.S.drag))  _))<|RD.one 8 (RDO.ev [] [.own 0,.own 0] λ _=>?_)
    refine RD.fin<|RN.go 2 [] λ _=>RN.draw [] []<|RD.go [] [0,4,1,5,2,6,3,7] (ow 2 17)<|RD.cp [] 8 (λ X_=>(lbody_any t.S t.i _ hS.toSetN)) ?_
    have hb46:=bodyAt_bd hS.toSetN t.i
    refine RD.go [] [9] []<|RD.fin<|RN.go 2 [] λ _=>RN.draw [11] []<|RD.goP [] [0,4,6,1,5,7,2,3,9,10] [.nw,.own 0,.own 2] [I64 ((bodyAt t.S t.i)+2)]<|RD.cp [] 8 (λ X_=>(clamp_any ((vscale (vadd (vadd (⟨(motM t.S M t.i).vx,(motM t.S M t.i).vy⟩:V2) t.S.g) (⟨IntKind.i64.wrap ((M.get ((playerAt t.S t.i)+0)) * t.S.push),IntKind.i64.wrap ((M.get ((playerAt t.S t.i)+1)) * t.S.push)⟩:V2)) (IntKind.i64.wrap (1024 - t.S.drag))).x) (-16384) 16384  _))<|RD.one 11 (RDO.ctK [] [] [0] (set_any ((bodyAt t.S t.i)+2) (clampI ((vscale (vadd (vadd (⟨(motM t.S M t.i).vx,(motM t.S M t.i).vy⟩:V2) t.S.g) (⟨IntKind.i64.wrap ((M.get ((playerAt t.S t.i)+0)) * t.S.push),IntKind.i64.wrap ((M.get ((playerAt t.S t.i)+1)) * t.S.push)⟩:V2)) (IntKind.i64.wrap (1024 - t.S.drag))).x) (-16384) 16384) hM (hbi (bodyAt_nn hS.toSetN (movP.has h41)) 2 (by decide) (by decide))) ?_)
    rintro _ T47 hM48
    refine RD.fin<|RN.go 1 [] λ _=>RN.draw [11] []<|RD.goP [] [0,4,6,1,5,7,2,3,9,10] [.nw,.own 0,.own 2] [I64 ((bodyAt t.S t.i)+3)]<|RD.cp [] 8 (λ X_=>(clamp_any ((vscale (vadd (vadd (⟨(motM t.S M t.i).vx,(motM t.S M t.i).vy⟩:V2) t.S.g) (⟨IntKind.i64.wrap ((M.get ((playerAt t.S t.i)+0)) * t.S.push),IntKind.i64.wrap ((M.get ((playerAt t.S t.i)+1)) * t.S.push)⟩:V2)) (IntKind.i64.wrap (1024 - t.S.drag))).y) (-16384) 16384  _))<|RD.one 11 (RDO.ctK [] [] [0] (set_any ((bodyAt t.S t.i)+3) (clampI ((vscale (vadd (vadd (⟨(motM t.S M t.i).vx,(motM t.S M t.i).vy⟩:V2) t.S.g) (⟨IntKind.i64.wrap ((M.get ((playerAt t.S t.i)+0)) * t.S.push),IntKind.i64.wrap ((M.get ((playerAt t.S t.i)+1)) * t.S.push)⟩:V2)) (IntKind.i64.wrap (1024 - t.S.drag))).y) (-16384) 16384) hM48 (hbi (bodyAt_nn hS.toSetN (movP.has h41)) 3 (by decide) (by decide))) ?_)
    rintro _ T49 hM50
    refine RD.fin<|RN.go 3 [] λ _=>RN.draw [] []<|RD.go [] [0,5,1,6,2,7,3,8,4,9,10,11] [.own 2,.own 2]<|RD.fin<|RN.go 1 [] λ _=>RN.em (IntKind.i64.wrap (t.i+1) < (t.S.nb:Int)) 141 (λ h51=>?_) λ h51=>?_
    ·refine RN.go 2 [] λ _=>RN.draw [11] []<|RD.go [] [0,4,1,5,2,6,3,7,8,9,10] [.own 2,.own 2]<|RD.one 11 (RDO.ctK [] [] [0] (set_any 2 (IntKind.i64.wrap (t.i+1)) hM50 (hl 2 (by decide) (by decide))) ?_)
     rintro _ T52 hM53
     refine RD.fin<|RN.go 1 [] λ _=>RN.ret [] [2] [0] (v:=.tuple #[]) (H':=(ap [(tb,.lit (Stp.l K t mb) 94 (0,0))] [T52])) ?_
     refine ⟨T52,rfl,?_⟩
     have e:(forceM t M)=(((M.set ((bodyAt t.S t.i)+2) (clampI ((vscale (vadd (vadd (⟨(motM t.S M t.i).vx,(motM t.S M t.i).vy⟩:V2) t.S.g) (⟨IntKind.i64.wrap ((M.get ((playerAt t.S t.i)+0)) * t.S.push),IntKind.i64.wrap ((M.get ((playerAt t.S t.i)+1)) * t.S.push)⟩:V2)) (IntKind.i64.wrap (1024 - t.S.drag))).x) (-16384) 16384)).set ((bodyAt t.S t.i)+3) (clampI ((vscale (vadd (vadd (⟨(motM t.S M t.i).vx,(motM t.S M t.i).vy⟩:V2) t.S.g) (⟨IntKind.i64.wrap ((M.get ((playerAt t.S t.i)+0)) * t.S.push),IntKind.i64.wrap ((M.get ((playerAt t.S t.i)+1)) * t.S.push)⟩:V2)) (IntKind.i64.wrap (1024 - t.S.drag))).y) (-16384) 16384)).set 2 (IntKind.i64.wrap (t.i+1))):=by
      first | (simp only [forceM,forceA,forceB,forceC,forceV,if_neg h2,if_pos h41,if_pos h45,if_pos h51];done) | (simp only [forceM,forceA,forceB,forceC,forceV,if_neg h2,if_pos h41,if_pos h45,if_pos h51];rfl) | rfl
     rw [e]
     exact hM53.weak (by omega)
    ·refine RN.go 6 [] λ _=>RN.ct [2] [0] (begin_any t 4 1 tb mb ((M.set ((bodyAt t.S t.i)+2) (clampI ((vscale (vadd (vadd (⟨(motM t.S M t.i).vx,(motM t.S M t.i).vy⟩:V2) t.S.g) (⟨IntKind.i64.wrap ((M.get ((playerAt t.S t.i)+0)) * t.S.push),IntKind.i64.wrap ((M.get ((playerAt t.S t.i)+1)) * t.S.push)⟩:V2)) (IntKind.i64.wrap (1024 - t.S.drag))).x) (-16384) 16384)).set ((bodyAt t.S t.i)+3) (clampI ((vscale (vadd (vadd (⟨(motM t.S M t.i).vx,(motM t.S M t.i).vy⟩:V2) t.S.g) (⟨IntKind.i64.wrap ((M.get ((playerAt t.S t.i)+0)) * t.S.push),IntKind.i64.wrap ((M.get ((playerAt t.S t.i)+1)) * t.S.push)⟩:V2)) (IntKind.i64.wrap (1024 - t.S.drag))).y) (-16384) 16384)) (k+3) T49 _ hM50 hS.up hl) ?_
     rintro _ T54 hM55
     refine RN.go 7 [.own 0] λ _=>RN.ctK [] [0] (set_any 4 0 hM55 (hl 4 (by decide) (by decide))) ?_
     rintro _ T56 hM57
     refine RN.go 1 [] λ _=>RN.ret [] [0] [0] (v:=.tuple #[]) (H':=(ap [(tb,.lit (Stp.l K t mb) 94 (0,0))] [T56])) ?_
     refine ⟨T56,rfl,?_⟩
     have e:(forceM t M)=((beginM t 4 1 ((M.set ((bodyAt t.S t.i)+2) (clampI ((vscale (vadd (vadd (⟨(motM t.S M t.i).vx,(motM t.S M t.i).vy⟩:V2) t.S.g) (⟨IntKind.i64.wrap ((M.get ((playerAt t.S t.i)+0)) * t.S.push),IntKind.i64.wrap ((M.get ((playerAt t.S t.i)+1)) * t.S.push)⟩:V2)) (IntKind.i64.wrap (1024 - t.S.drag))).x) (-16384) 16384)).set ((bodyAt t.S t.i)+3) (clampI ((vscale (vadd (vadd (⟨(motM t.S M t.i).vx,(motM t.S M t.i).vy⟩:V2) t.S.g) (⟨IntKind.i64.wrap ((M.get ((playerAt t.S t.i)+0)) * t.S.push),IntKind.i64.wrap ((M.get ((playerAt t.S t.i)+1)) * t.S.push)⟩:V2)) (IntKind.i64.wrap (1024 - t.S.drag))).y) (-16384) 16384))).set 4 0):=by
      first | (simp only [forceM,forceA,forceB,forceC,forceV,if_neg h2,if_pos h41,if_pos h45,if_neg h51];done) | (simp only [forceM,forceA,forceB,forceC,forceV,if_neg h2,if_pos h41,if_pos h45,if_neg h51];rfl) | rfl
     rw [e]
     exact hM57.weak (by omega)
   ·refine RN.go 4 [] λ _=>RN.draw [8] []<|RD.go [] [0,1,2,3,4,5,6] [.own 0,.own 0,.own 2]<|RD.cp [] 7 (λ X_=>(vscale_any (vadd (⟨(motM t.S M t.i).vx,(motM t.S M t.i).vy⟩:V2) t.S.g) (IntKind.i64.wrap (1024 - t.S.drag))  _))<|RD.one 8 (RDO.ev [] [.own 0,.own 0] λ _=>?_)
    refine RD.fin<|RN.go 2 [] λ _=>RN.draw [] []<|RD.go [] [0,4,1,5,2,6,3,7] (ow 2 17)<|RD.cp [] 8 (λ X_=>(lbody_any t.S t.i _ hS.toSetN)) ?_
    have hb58:=bodyAt_bd hS.toSetN t.i
    refine RD.go [] [9] []<|RD.fin<|RN.go 2 [] λ _=>RN.draw [11] []<|RD.goP [] [0,4,6,1,5,7,2,3,9,10] [.nw,.own 0,.own 2] [I64 ((bodyAt t.S t.i)+2)]<|RD.cp [] 8 (λ X_=>(clamp_any ((vscale (vadd (⟨(motM t.S M t.i).vx,(motM t.S M t.i).vy⟩:V2) t.S.g) (IntKind.i64.wrap (1024 - t.S.drag))).x) (-16384) 16384  _))<|RD.one 11 (RDO.ctK [] [] [0] (set_any ((bodyAt t.S t.i)+2) (clampI ((vscale (vadd (⟨(motM t.S M t.i).vx,(motM t.S M t.i).vy⟩:V2) t.S.g) (IntKind.i64.wrap (1024 - t.S.drag))).x) (-16384) 16384) hM (hbi (bodyAt_nn hS.toSetN (movP.has h41)) 2 (by decide) (by decide))) ?_)
    rintro _ T59 hM60
    refine RD.fin<|RN.go 1 [] λ _=>RN.draw [11] []<|RD.goP [] [0,4,6,1,5,7,2,3,9,10] [.nw,.own 0,.own 2] [I64 ((bodyAt t.S t.i)+3)]<|RD.cp [] 8 (λ X_=>(clamp_any ((vscale (vadd (⟨(motM t.S M t.i).vx,(motM t.S M t.i).vy⟩:V2) t.S.g) (IntKind.i64.wrap (1024 - t.S.drag))).y) (-16384) 16384  _))<|RD.one 11 (RDO.ctK [] [] [0] (set_any ((bodyAt t.S t.i)+3) (clampI ((vscale (vadd (⟨(motM t.S M t.i).vx,(motM t.S M t.i).vy⟩:V2) t.S.g) (IntKind.i64.wrap (1024 - t.S.drag))).y) (-16384) 16384) hM60 (hbi (bodyAt_nn hS.toSetN (movP.has h41)) 3 (by decide) (by decide))) ?_)
    rintro _ T61 hM62
    refine RD.fin<|RN.go 3 [] λ _=>RN.draw [] []<|RD.go [] [0,5,1,6,2,7,3,8,4,9,10,11] [.own 2,.own 2]<|RD.fin<|RN.go 1 [] λ _=>RN.em (IntKind.i64.wrap (t.i+1) < (t.S.nb:Int)) 141 (λ h63=>?_) λ h63=>?_
    ·refine RN.go 2 [] λ _=>RN.draw [11] []<|RD.go [] [0,4,1,5,2,6,3,7,8,9,10] [.own 2,.own 2]<|RD.one 11 (RDO.ctK [] [] [0] (set_any 2 (IntKind.i64.wrap (t.i+1)) hM62 (hl 2 (by decide) (by decide))) ?_)
     rintro _ T64 hM65
     refine RD.fin<|RN.go 1 [] λ _=>RN.ret [] [2] [0] (v:=.tuple #[]) (H':=(ap [(tb,.lit (Stp.l K t mb) 94 (0,0))] [T64])) ?_
     refine ⟨T64,rfl,?_⟩
     have e:(forceM t M)=(((M.set ((bodyAt t.S t.i)+2) (clampI ((vscale (vadd (⟨(motM t.S M t.i).vx,(motM t.S M t.i).vy⟩:V2) t.S.g) (IntKind.i64.wrap (1024 - t.S.drag))).x) (-16384) 16384)).set ((bodyAt t.S t.i)+3) (clampI ((vscale (vadd (⟨(motM t.S M t.i).vx,(motM t.S M t.i).vy⟩:V2) t.S.g) (IntKind.i64.wrap (1024 - t.S.drag))).y) (-16384) 16384)).set 2 (IntKind.i64.wrap (t.i+1))):=by
      first | (simp only [forceM,forceA,forceB,forceC,forceV,if_neg h2,if_pos h41,if_neg h45,if_pos h63];done) | (simp only [forceM,forceA,forceB,forceC,forceV,if_neg h2,if_pos h41,if_neg h45,if_pos h63];rfl) | rfl
     rw [e]
     exact hM65.weak (by omega)
    ·refine RN.go 6 [] λ _=>RN.ct [2] [0] (begin_any t 4 1 tb mb ((M.set ((bodyAt t.S t.i)+2) (clampI ((vscale (vadd (⟨(motM t.S M t.i).vx,(motM t.S M t.i).vy⟩:V2) t.S.g) (IntKind.i64.wrap (1024 - t.S.drag))).x) (-16384) 16384)).set ((bodyAt t.S t.i)+3) (clampI ((vscale (vadd (⟨(motM t.S M t.i).vx,(motM t.S M t.i).vy⟩:V2) t.S.g) (IntKind.i64.wrap (1024 - t.S.drag))).y) (-16384) 16384)) (k+3) T61 _ hM62 hS.up hl) ?_
     rintro _ T66 hM67
     refine RN.go 7 [.own 0] λ _=>RN.ctK [] [0] (set_any 4 0 hM67 (hl 4 (by decide) (by decide))) ?_
     rintro _ T68 hM69
     refine RN.go 1 [] λ _=>RN.ret [] [0] [0] (v:=.tuple #[]) (H':=(ap [(tb,.lit (Stp.l K t mb) 94 (0,0))] [T68])) ?_
     refine ⟨T68,rfl,?_⟩
     have e:(forceM t M)=((beginM t 4 1 ((M.set ((bodyAt t.S t.i)+2) (clampI ((vscale (vadd (⟨(motM t.S M t.i).vx,(motM t.S M t.i).vy⟩:V2) t.S.g) (IntKind.i64.wrap (1024 - t.S.drag))).x) (-16384) 16384)).set ((bodyAt t.S t.i)+3) (clampI ((vscale (vadd (⟨(motM t.S M t.i).vx,(motM t.S M t.i).vy⟩:V2) t.S.g) (IntKind.i64.wrap (1024 - t.S.drag))).y) (-16384) 16384))).set 4 0):=by
      first | (simp only [forceM,forceA,forceB,forceC,forceV,if_neg h2,if_pos h41,if_neg h45,if_neg h63];done) | (simp only [forceM,forceA,forceB,forceC,forceV,if_neg h2,if_pos h41,if_neg h45,if_neg h63];rfl) | rfl
     rw [e]
     exact hM69.weak (by omega)
  ·refine RN.go 5 [] λ _=>RN.draw [] []<|RD.go [] [0,5,1,6,2,7,3,8,4,9,10,11] [.own 0,.own 0]<|RD.fin<|RN.go 1 [] λ _=>RN.em (IntKind.i64.wrap (t.i+1) < (t.S.nb:Int)) 141 (λ h70=>?_) λ h70=>?_
   ·refine RN.go 2 [] λ _=>RN.draw [11] []<|RD.go [] [0,4,1,5,2,6,3,7,8,9,10] [.own 0,.own 0]<|RD.one 11 (RDO.ctK [] [] [0] (set_any 2 (IntKind.i64.wrap (t.i+1)) hM (hl 2 (by decide) (by decide))) ?_)
    rintro _ T71 hM72
    refine RD.fin<|RN.go 1 [] λ _=>RN.ret [] [0] [0] (v:=.tuple #[]) (H':=(ap [(tb,.lit (Stp.l K t mb) 94 (0,0))] [T71])) ?_
    refine ⟨T71,rfl,?_⟩
    have e:(forceM t M)=(M.set 2 (IntKind.i64.wrap (t.i+1))):=by
     first | (simp only [forceM,forceA,forceB,forceC,forceV,if_neg h2,if_neg h41,if_pos h70];done) | (simp only [forceM,forceA,forceB,forceC,forceV,if_neg h2,if_neg h41,if_pos h70];rfl) | rfl
    rw [e]
    exact hM72.weak (by omega)
   ·refine RN.go 6 [] λ _=>RN.ct [0] [0] (begin_any t 4 1 tb mb M (k+5) T _ hM hS.up hl) ?_
    rintro _ T73 hM74
    refine RN.go 7 [.own 0] λ _=>RN.ctK [] [0] (set_any 4 0 hM74 (hl 4 (by decide) (by decide))) ?_
    rintro _ T75 hM76
    refine RN.go 1 [] λ _=>RN.ret [] [0] [0] (v:=.tuple #[]) (H':=(ap [(tb,.lit (Stp.l K t mb) 94 (0,0))] [T75])) ?_
    refine ⟨T75,rfl,?_⟩
    have e:(forceM t M)=((beginM t 4 1 M).set 4 0):=by
     first | (simp only [forceM,forceA,forceB,forceC,forceV,if_neg h2,if_neg h41,if_neg h70];done) | (simp only [forceM,forceA,forceB,forceC,forceV,if_neg h2,if_neg h41,if_neg h70];rfl) | rfl
    rw [e]
    exact hM76.weak (by omega)
theorem travel_any (t:Stp)  (tb mb:Nat) (M:MemS) (k:Nat) (T F:HL) (hM:MemK K D mb M (k+4) T) (hS:SetIn F t.S) (hi:movP t.S t.i) (hl:DLo D) (hbi:DBd D t.S t.i) :Sp Tryz.prog 57 #[vP tb 0] (ap [(tb,.lit (Stp.l K t mb) 94 (0,0))] [T]) F (λ u H'=>∃ x,H'=ap [(tb,.lit (Stp.l K t mb) 94 (0,0))] [x] /\ (MemK K D mb (travelM t M) k x)):=by
 have hp:=hS.pl
 have hn:=hS.nb
 have hr:=hS.room
 refine Sp.run Tryz.func57 rfl (mc hS.blk mn) (A:=[(tb,.lit (Stp.l K t mb) 94 (0,0))]) (Ts:=[T]) rfl λ w0=>?_
 refine RN.go 7 [.own 0] λ _=>RN.cp (motion_any t t.i tb mb M _ T _ (in_ap 0) hS.up hM (sub_ap 0) (movP.has hi) (hbi (bodyAt_nn hS.toSetN (movP.has hi))))<|RN.go 10 (ow 0 5++[.own 1]) λ n1=>RN.cpK (get_any 5 hM (hl 5 (by decide) (by decide)) (sub_ap 0))<|RN.go 6 [] λ _=>RN.draw [8] []<|RD.go [] [0,2,4,1,3] [.own 0,.own 0,.own 0,.own 0]<|RD.cp [] 5 (λ X_=>(vmuldiv_any (⟨(motM t.S M t.i).vx,(motM t.S M t.i).vy⟩:V2) (if IntKind.i64.wrap ((M.get 5)+128) < 1024 then IntKind.i64.wrap ((M.get 5)+128) else 1024) 1024  _))<|RD.cp [] 6 (λ X_=>(vadd_any (⟨(motM t.S M t.i).px,(motM t.S M t.i).py⟩:V2) (vmuldiv (⟨(motM t.S M t.i).vx,(motM t.S M t.i).vy⟩:V2) (if IntKind.i64.wrap ((M.get 5)+128) < 1024 then IntKind.i64.wrap ((M.get 5)+128) else 1024) 1024)  _))<|RD.one 7 (RDO.ev [] [] λ n2=>?_)
 refine RD.one 8 (RDO.ev [] [.own 0,.own 0] λ _=>?_)
 refine RD.fin<|RN.go 2 [] λ _=>RN.draw [16] []<|RD.go [] [0,4,9,1,5,10,2,6,11,3,7,12,13] (ow 2 21)<|RD.cp [] 8 (λ X_=>(lbody_any t.S t.i _ hS.toSetN)) ?_
 have hb3:=bodyAt_bd hS.toSetN t.i
 refine RD.one 14 (RDO.ev [] [] λ n4=>?_)
 refine RD.go [] [15] []<|RD.one 16 (RDO.ev [] [.own 0,.own 0,.own 0,.own 0] λ _=>?_)
 refine RD.fin<|RN.goP 14 [.nw,.nw,.own 1,.own 0,.own 0] [I64 ((bodyAt t.S t.i)+2),I64 ((bodyAt t.S t.i)+0)] λ _=>RN.ct [3] [0] (place_any t ((bodyAt t.S t.i)+0) ((bodyAt t.S t.i)+2) ((vadd (⟨(motM t.S M t.i).px,(motM t.S M t.i).py⟩:V2) (vmuldiv (⟨(motM t.S M t.i).vx,(motM t.S M t.i).vy⟩:V2) (if IntKind.i64.wrap ((M.get 5)+128) < 1024 then IntKind.i64.wrap ((M.get 5)+128) else 1024) 1024)).x) t.S.box.x0 t.S.box.x1 tb mb M (k+2) T _ hM hS.up  (hbi (bodyAt_nn hS.toSetN (movP.has hi)) 0 (by decide) (by decide))  (hbi (bodyAt_nn hS.toSetN (movP.has hi)) 2 (by decide) (by decide))) ?_
 rintro _ T5 hM6
 refine RN.goP 14 [.nw,.nw,.own 2,.own 1,.own 1] [I64 ((bodyAt t.S t.i)+3),I64 ((bodyAt t.S t.i)+1)] λ _=>RN.ct [0] [0] (place_any t ((bodyAt t.S t.i)+1) ((bodyAt t.S t.i)+3) ((vadd (⟨(motM t.S M t.i).px,(motM t.S M t.i).py⟩:V2) (vmuldiv (⟨(motM t.S M t.i).vx,(motM t.S M t.i).vy⟩:V2) (if IntKind.i64.wrap ((M.get 5)+128) < 1024 then IntKind.i64.wrap ((M.get 5)+128) else 1024) 1024)).y) t.S.box.y0 t.S.box.y1 tb mb (placeM t ((bodyAt t.S t.i)+0) ((bodyAt t.S t.i)+2) ((vadd (⟨(motM t.S M t.i).px,(motM t.S M t.i).py⟩:V2) (vmuldiv (⟨(motM t.S M t.i).vx,(motM t.S M t.i).vy⟩:V2) (if IntKind.i64.wrap ((M.get 5)+128) < 1024 then IntKind.i64.wrap ((M.get 5)+128) else 1024) 1024)).x) t.S.box.x0 t.S.box.x1 M) k T5 _ hM6 hS.up  (hbi (bodyAt_nn hS.toSetN (movP.has hi)) 1 (by decide) (by decide))  (hbi (bodyAt_nn hS.toSetN (movP.has hi)) 3 (by decide) (by decide))) ?_
 rintro _ T7 hM8
 refine RN.go 1 [] λ _=>RN.ret [] [0] [0] (v:=.tuple #[]) (H':=(ap [(tb,.lit (Stp.l K t mb) 94 (0,0))] [T7])) ?_
 refine ⟨T7,rfl,?_⟩
 have e:(travelM t M)=(placeM t ((bodyAt t.S t.i)+1) ((bodyAt t.S t.i)+3) ((vadd (⟨(motM t.S M t.i).px,(motM t.S M t.i).py⟩:V2) (vmuldiv (⟨(motM t.S M t.i).vx,(motM t.S M t.i).vy⟩:V2) (if IntKind.i64.wrap ((M.get 5)+128) < 1024 then IntKind.i64.wrap ((M.get 5)+128) else 1024) 1024)).y) t.S.box.y0 t.S.box.y1 (placeM t ((bodyAt t.S t.i)+0) ((bodyAt t.S t.i)+2) ((vadd (⟨(motM t.S M t.i).px,(motM t.S M t.i).py⟩:V2) (vmuldiv (⟨(motM t.S M t.i).vx,(motM t.S M t.i).vy⟩:V2) (if IntKind.i64.wrap ((M.get 5)+128) < 1024 then IntKind.i64.wrap ((M.get 5)+128) else 1024) 1024)).x) t.S.box.x0 t.S.box.x1 M)):=by
  first | (simp only [travelM,travelP,travelF,if_pos hi];done) | (simp only [travelM,travelP,travelF,if_pos hi];rfl) | rfl
 rw [e]
 exact hM8.weak (by omega)
end Go.Proofs.YtkhifpbokgabbaaGreatDoor
