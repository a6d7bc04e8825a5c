import Derived.Test.YtobflkidpfkcaaaGreatDoorY05
import Derived.Test.YtobflkidpfkcaaaGreatDoorY04
set_option maxHeartbeats 4000000
set_option maxRecDepth 100000
set_option linter.unusedSimpArgs false
set_option linter.unusedVariables false
namespace Go.Proofs.YtobflkidpfkcaaaGreatDoor
open Go.RowKit
def fw (t:Stp):Bool:=if bd (t.i+1) < t.S.nb then t.ended else true
def fP (t:Stp) (M:MemS):MemS:=if af t.S t.i >= 0 then M.set (af t.S t.i+7) (if M.get (af t.S t.i+2)=0 then if M.get (af t.S t.i+3)=0 then (if 1000 < bd (M.get (af t.S t.i+7)+1) then 1000 else bd (M.get (af t.S t.i+7)+1)) else 0 else 0) else M
def cF (M:MemS):Nat -> MemS
 | 0=>M
 | n+1=>(cF M n).set ((n+1:Nat):Int) 0
def gK (t:Stp) (M:MemS):MemS:=if bd (t.i+1) < t.S.nb then M.set 2 (bd (t.i+1)) else cF (M.set 0 (bd (M.get 0+1))) 10
def dw (t:Stp) (M:MemS):MemS:=gK t (fP t M)
def b6 (t:Stp) (M:MemS):V2:=aq (if ah t.S t.i >= 0 then aE (aE ⟨(ar t.S M t.i).vx,(ar t.S M t.i).vy⟩ t.S.g) ⟨bd (M.get (ah t.S t.i+0) * t.S.push),bd (M.get (ah t.S t.i+1) * t.S.push)⟩ else aE ⟨(ar t.S M t.i).vx,(ar t.S M t.i).vy⟩ t.S.g) (bd (1024 - t.S.drag))
def bJ (t:Stp) (M:MemS):MemS:=if af t.S t.i >= 0 then M.set (af t.S t.i+6) 0 else M
def bL (t:Stp) (M:MemS):MemS:=if movP t.S t.i then (M.set (af t.S t.i+2) (aG (b6 t M).x (-16384) 16384)).set (af t.S t.i+3) (aG (b6 t M).y (-16384) 16384) else M
def b7 (t:Stp) (M:MemS):MemS:=if bd (t.i+1) < t.S.nb then M.set 2 (bd (t.i+1)) else (aM t 4 1 M).set 4 0
def aR (t:Stp) (M:MemS):MemS:=b7 t (bL t (bJ t M))
def lh (M:MemS):Int:=if bd (M.get 5+128) < 1024 then bd (M.get 5+128) else 1024
def gc (t:Stp) (M:MemS):V2:=aE ⟨(ar t.S M t.i).px,(ar t.S M t.i).py⟩ (eD ⟨(ar t.S M t.i).vx,(ar t.S M t.i).vy⟩ (lh M) 1024)
def cZ (t:Stp) (M:MemS):MemS:=d5 t (af t.S t.i+1) (af t.S t.i+3) (gc t M).y t.S.box.y0 t.S.box.y1 (d5 t (af t.S t.i+0) (af t.S t.i+2) (gc t M).x t.S.box.x0 t.S.box.x1 M)
theorem BJ (t:Stp)  (tb mb:Nat) (M:MemS) (k:Nat) (T F:HL) (hM:MemH mb M (k+8) T) (hS:SetIn F t.S) :Sp Tryz.prog 143 #[vP tb 0] (ap [(tb,.lit (Stp.l t mb) 267 (0,0))] [T]) F (λ u H'=>∃ x,H'=ap [(tb,.lit (Stp.l t mb) 267 (0,0))] [x] /\ (MemH mb (aR t M) k x)):=by
 have hp:=hS.pl
 have hn:=hS.nb
 have hr:=hS.room
 refine Sp.run Tryz.func143 rfl (mc hS.blk mn) (A:=[(tb,.lit (Stp.l t mb) 267 (0,0))]) (Ts:=[T]) rfl λ w0=>?_
 refine ae 2 [] λ _=>RN.draw [] []<|ag [] [0,4,1,5,2,6,3,7] (ow 0 17)<|au [] 8 (λ X_=>(cI t.S t.i _ hS.toSetN)) ?_
 have hb1:=cH hS.toSetN t.i
 refine ag [] [9] []<|RD.fin<|ae 7 [] λ _=>RN.em (af t.S t.i >= 0) 19 (λ h2=>?_) λ h2=>?_
 ·refine ai 8 [.own 0,.nw] [bg ((af t.S t.i)+6)] λ _=>RN.ct [] [0] (ak ((af t.S t.i)+6) 0 hM) ?_
  rintro _ T3 hM4
  refine ae 10 [.own 0] λ _=>aj (i4 t t.i tb mb _ (aB 0) hS.up)<|ae 2 [] λ _=>RN.em (movP t.S t.i) 32 (λ h5=>?_) λ h5=>?_
  ·have:=movP.has h5
   refine ae 8 [.own 0] λ _=>aj (fm t t.i tb mb (M.set ((af t.S t.i)+6) 0) _ T3 _ (aB 0) hS.up hM4 (av 0) (movP.has h5))<|ae 5 (ow 0 5) λ n6=>RN.draw [9] []<|ag [] [0,2,1,3,4,5,6] [.own 0,.own 0,.own 1,.own 1]<|au [] 7 (λ X_=>(dZ (⟨(ar t.S (M.set ((af t.S t.i)+6) 0) t.i).vx,(ar t.S (M.set ((af t.S t.i)+6) 0) t.i).vy⟩:V2) t.S.g  _))<|RD.one 8 (RDO.ev [] [] λ n7=>?_)
   refine RD.one 9 (RDO.ev [] [.own 0,.own 0] λ _=>?_)
   refine RD.fin<|ae 3 [] λ _=>RN.draw [] []<|ag [] [0,4,1,5,2,6,3,7] (ow 2 17)<|au [] 8 (λ X_=>(gm t.S t.i _ hS.toSetN)) ?_
   have hb8:=gl hS.toSetN t.i
   refine ag [] [9] []<|RD.fin<|ae 7 [] λ _=>RN.em (ah t.S t.i >= 0) 57 (λ h9=>?_) λ h9=>?_
   ·refine ae 2 [] λ _=>RN.draw [] []<|aJ [] [0,4,7,11,1,5,8,12,2,9,3,10] [.nw,.nw,.own 2,.own 2] [bg ((ah t.S t.i)+1),bg ((ah t.S t.i)+0)]<|au [] 6 (λ X_=>(az ((ah t.S t.i)+0) hM4 (aU 0)))<|au [] 13 (λ X_=>(az ((ah t.S t.i)+1) hM4 (aU 0)))<|ag [] [14,15] []<|RD.fin<|ae 1 [] λ _=>RN.draw [17] []<|ag [] [0,1,2,8,9,3,10,4,11,5,12,6,13,7,14,15] [.own 0,.own 0,.own 2,.own 2]<|au [] 16 (λ X_=>(dZ (aE (⟨(ar t.S (M.set ((af t.S t.i)+6) 0) t.i).vx,(ar t.S (M.set ((af t.S t.i)+6) 0) t.i).vy⟩:V2) t.S.g) (⟨IntKind.i64.wrap (((M.set ((af t.S t.i)+6) 0).get ((ah t.S t.i)+0)) * t.S.push),IntKind.i64.wrap (((M.set ((af t.S t.i)+6) 0).get ((ah t.S t.i)+1)) * t.S.push)⟩:V2)  _))<|RD.one 17 (RDO.ev [] [.own 0,.own 0] λ _=>?_)
    refine RD.fin<|ae 2 [] λ _=>RN.draw [8] []<|ag [] [0,1,2,3,4,5,6] [.own 0,.own 0,.own 2]<|au [] 7 (λ X_=>(eI (aE (aE (⟨(ar t.S (M.set ((af t.S t.i)+6) 0) t.i).vx,(ar t.S (M.set ((af t.S t.i)+6) 0) t.i).vy⟩:V2) t.S.g) (⟨IntKind.i64.wrap (((M.set ((af t.S t.i)+6) 0).get ((ah t.S t.i)+0)) * t.S.push),IntKind.i64.wrap (((M.set ((af t.S t.i)+6) 0).get ((ah t.S t.i)+1)) * t.S.push)⟩:V2)) (IntKind.i64.wrap (1024 - t.S.drag))  _))<|RD.one 8 (RDO.ev [] [.own 0,.own 0] λ _=>?_)
    refine RD.fin<|ae 2 [] λ _=>RN.draw [] []<|ag [] [0,4,1,5,2,6,3,7] (ow 2 17)<|au [] 8 (λ X_=>(cI t.S t.i _ hS.toSetN)) ?_
    have hb10:=cH hS.toSetN t.i
    refine ag [] [9] []<|RD.fin<|ae 2 [] λ _=>RN.draw [11] []<|aJ [] [0,4,6,1,5,7,2,3,9,10] [.nw,.own 0,.own 2] [bg ((af t.S t.i)+2)]<|au [] 8 (λ X_=>(cB ((aq (aE (aE (⟨(ar t.S (M.set ((af t.S t.i)+6) 0) t.i).vx,(ar t.S (M.set ((af t.S t.i)+6) 0) t.i).vy⟩:V2) t.S.g) (⟨IntKind.i64.wrap (((M.set ((af t.S t.i)+6) 0).get ((ah t.S t.i)+0)) * t.S.push),IntKind.i64.wrap (((M.set ((af t.S t.i)+6) 0).get ((ah t.S t.i)+1)) * t.S.push)⟩:V2)) (IntKind.i64.wrap (1024 - t.S.drag))).x) (-16384) 16384  _))<|RD.one 11 (RDO.ct [] [] [0] (ak ((af t.S t.i)+2) (aG ((aq (aE (aE (⟨(ar t.S (M.set ((af t.S t.i)+6) 0) t.i).vx,(ar t.S (M.set ((af t.S t.i)+6) 0) t.i).vy⟩:V2) t.S.g) (⟨IntKind.i64.wrap (((M.set ((af t.S t.i)+6) 0).get ((ah t.S t.i)+0)) * t.S.push),IntKind.i64.wrap (((M.set ((af t.S t.i)+6) 0).get ((ah t.S t.i)+1)) * t.S.push)⟩:V2)) (IntKind.i64.wrap (1024 - t.S.drag))).x) (-16384) 16384) hM4) ?_)
    rintro _ T11 hM12
    refine RD.fin<|ae 1 [] λ _=>RN.draw [11] []<|aJ [] [0,4,6,1,5,7,2,3,9,10] [.nw,.own 0,.own 2] [bg ((af t.S t.i)+3)]<|au [] 8 (λ X_=>(cB ((aq (aE (aE (⟨(ar t.S (M.set ((af t.S t.i)+6) 0) t.i).vx,(ar t.S (M.set ((af t.S t.i)+6) 0) t.i).vy⟩:V2) t.S.g) (⟨IntKind.i64.wrap (((M.set ((af t.S t.i)+6) 0).get ((ah t.S t.i)+0)) * t.S.push),IntKind.i64.wrap (((M.set ((af t.S t.i)+6) 0).get ((ah t.S t.i)+1)) * t.S.push)⟩:V2)) (IntKind.i64.wrap (1024 - t.S.drag))).y) (-16384) 16384  _))<|RD.one 11 (RDO.ct [] [] [0] (ak ((af t.S t.i)+3) (aG ((aq (aE (aE (⟨(ar t.S (M.set ((af t.S t.i)+6) 0) t.i).vx,(ar t.S (M.set ((af t.S t.i)+6) 0) t.i).vy⟩:V2) t.S.g) (⟨IntKind.i64.wrap (((M.set ((af t.S t.i)+6) 0).get ((ah t.S t.i)+0)) * t.S.push),IntKind.i64.wrap (((M.set ((af t.S t.i)+6) 0).get ((ah t.S t.i)+1)) * t.S.push)⟩:V2)) (IntKind.i64.wrap (1024 - t.S.drag))).y) (-16384) 16384) hM12) ?_)
    rintro _ T13 hM14
    refine RD.fin<|ae 3 [] λ _=>RN.draw [] []<|ag [] [0,5,1,6,2,7,3,8,4,9,10,11] [.own 2,.own 2]<|RD.fin<|ae 1 [] λ _=>RN.em (IntKind.i64.wrap (t.i+1) < (t.S.nb:Int)) 141 (λ h15=>?_) λ h15=>?_
    ·refine ae 2 [] λ _=>RN.draw [11] []<|ag [] [0,4,1,5,2,6,3,7,8,9,10] [.own 2,.own 2]<|RD.one 11 (RDO.ct [] [] [0] (ak 2 (IntKind.i64.wrap (t.i+1)) hM14) ?_)
     rintro _ T16 hM17
     refine RD.fin<|ae 1 [] λ _=>RN.ret [] [2] [0] (v:=.tuple #[]) (H':=(ap [(tb,.lit (Stp.l t mb) 267 (0,0))] [T16])) ?_
     refine ⟨T16,rfl,?_⟩
     have e:(aR t M)=((((M.set ((af t.S t.i)+6) 0).set ((af t.S t.i)+2) (aG ((aq (aE (aE (⟨(ar t.S (M.set ((af t.S t.i)+6) 0) t.i).vx,(ar t.S (M.set ((af t.S t.i)+6) 0) t.i).vy⟩:V2) t.S.g) (⟨IntKind.i64.wrap (((M.set ((af t.S t.i)+6) 0).get ((ah t.S t.i)+0)) * t.S.push),IntKind.i64.wrap (((M.set ((af t.S t.i)+6) 0).get ((ah t.S t.i)+1)) * t.S.push)⟩:V2)) (IntKind.i64.wrap (1024 - t.S.drag))).x) (-16384) 16384)).set ((af t.S t.i)+3) (aG ((aq (aE (aE (⟨(ar t.S (M.set ((af t.S t.i)+6) 0) t.i).vx,(ar t.S (M.set ((af t.S t.i)+6) 0) t.i).vy⟩:V2) t.S.g) (⟨IntKind.i64.wrap (((M.set ((af t.S t.i)+6) 0).get ((ah t.S t.i)+0)) * t.S.push),IntKind.i64.wrap (((M.set ((af t.S t.i)+6) 0).get ((ah t.S t.i)+1)) * t.S.push)⟩:V2)) (IntKind.i64.wrap (1024 - t.S.drag))).y) (-16384) 16384)).set 2 (IntKind.i64.wrap (t.i+1))):=by
      first | (simp only [aR,bJ,bL,b7,b6,if_pos h2,if_pos h5,if_pos h9,if_pos h15];done) | (simp only [aR,bJ,bL,b7,b6,if_pos h2,if_pos h5,if_pos h9,if_pos h15];rfl) | rfl
     rw [e]
     exact hM17.weak (by omega)
    ·refine ae 6 [] λ _=>RN.ct [2] [0] (bK t 4 1 tb mb (((M.set ((af t.S t.i)+6) 0).set ((af t.S t.i)+2) (aG ((aq (aE (aE (⟨(ar t.S (M.set ((af t.S t.i)+6) 0) t.i).vx,(ar t.S (M.set ((af t.S t.i)+6) 0) t.i).vy⟩:V2) t.S.g) (⟨IntKind.i64.wrap (((M.set ((af t.S t.i)+6) 0).get ((ah t.S t.i)+0)) * t.S.push),IntKind.i64.wrap (((M.set ((af t.S t.i)+6) 0).get ((ah t.S t.i)+1)) * t.S.push)⟩:V2)) (IntKind.i64.wrap (1024 - t.S.drag))).x) (-16384) 16384)).set ((af t.S t.i)+3) (aG ((aq (aE (aE (⟨(ar t.S (M.set ((af t.S t.i)+6) 0) t.i).vx,(ar t.S (M.set ((af t.S t.i)+6) 0) t.i).vy⟩:V2) t.S.g) (⟨IntKind.i64.wrap (((M.set ((af t.S t.i)+6) 0).get ((ah t.S t.i)+0)) * t.S.push),IntKind.i64.wrap (((M.set ((af t.S t.i)+6) 0).get ((ah t.S t.i)+1)) * t.S.push)⟩:V2)) (IntKind.i64.wrap (1024 - t.S.drag))).y) (-16384) 16384)) (k+2) T13 _ hM14 hS.up ) ?_
     rintro _ T18 hM19
     refine ae 7 [.own 0] λ _=>RN.ct [] [0] (ak 4 0 hM19) ?_
     rintro _ T20 hM21
     refine ae 1 [] λ _=>RN.ret [] [0] [0] (v:=.tuple #[]) (H':=(ap [(tb,.lit (Stp.l t mb) 267 (0,0))] [T20])) ?_
     refine ⟨T20,rfl,?_⟩
     have e:(aR t M)=((aM t 4 1 (((M.set ((af t.S t.i)+6) 0).set ((af t.S t.i)+2) (aG ((aq (aE (aE (⟨(ar t.S (M.set ((af t.S t.i)+6) 0) t.i).vx,(ar t.S (M.set ((af t.S t.i)+6) 0) t.i).vy⟩:V2) t.S.g) (⟨IntKind.i64.wrap (((M.set ((af t.S t.i)+6) 0).get ((ah t.S t.i)+0)) * t.S.push),IntKind.i64.wrap (((M.set ((af t.S t.i)+6) 0).get ((ah t.S t.i)+1)) * t.S.push)⟩:V2)) (IntKind.i64.wrap (1024 - t.S.drag))).x) (-16384) 16384)).set ((af t.S t.i)+3) (aG ((aq (aE (aE (⟨(ar t.S (M.set ((af t.S t.i)+6) 0) t.i).vx,(ar t.S (M.set ((af t.S t.i)+6) 0) t.i).vy⟩:V2) t.S.g) (⟨IntKind.i64.wrap (((M.set ((af t.S t.i)+6) 0).get ((ah t.S t.i)+0)) * t.S.push),IntKind.i64.wrap (((M.set ((af t.S t.i)+6) 0).get ((ah t.S t.i)+1)) * t.S.push)⟩:V2)) (IntKind.i64.wrap (1024 - t.S.drag))).y) (-16384) 16384))).set 4 0):=by
      first | (simp only [aR,bJ,bL,b7,b6,if_pos h2,if_pos h5,if_pos h9,if_neg h15];done) | (simp only [aR,bJ,bL,b7,b6,if_pos h2,if_pos h5,if_pos h9,if_neg h15];rfl) | rfl
     rw [e]
     exact hM21.weak (by omega)
   ·refine ae 4 [] λ _=>RN.draw [8] []<|ag [] [0,1,2,3,4,5,6] [.own 0,.own 0,.own 2]<|au [] 7 (λ X_=>(eI (aE (⟨(ar t.S (M.set ((af t.S t.i)+6) 0) t.i).vx,(ar t.S (M.set ((af t.S t.i)+6) 0) t.i).vy⟩:V2) t.S.g) (IntKind.i64.wrap (1024 - t.S.drag))  _))<|RD.one 8 (RDO.ev [] [.own 0,.own 0] λ _=>?_)
    refine RD.fin<|ae 2 [] λ _=>RN.draw [] []<|ag [] [0,4,1,5,2,6,3,7] (ow 2 17)<|au [] 8 (λ X_=>(cI t.S t.i _ hS.toSetN)) ?_
    have hb22:=cH hS.toSetN t.i
    refine ag [] [9] []<|RD.fin<|ae 2 [] λ _=>RN.draw [11] []<|aJ [] [0,4,6,1,5,7,2,3,9,10] [.nw,.own 0,.own 2] [bg ((af t.S t.i)+2)]<|au [] 8 (λ X_=>(cB ((aq (aE (⟨(ar t.S (M.set ((af t.S t.i)+6) 0) t.i).vx,(ar t.S (M.set ((af t.S t.i)+6) 0) t.i).vy⟩:V2) t.S.g) (IntKind.i64.wrap (1024 - t.S.drag))).x) (-16384) 16384  _))<|RD.one 11 (RDO.ct [] [] [0] (ak ((af t.S t.i)+2) (aG ((aq (aE (⟨(ar t.S (M.set ((af t.S t.i)+6) 0) t.i).vx,(ar t.S (M.set ((af t.S t.i)+6) 0) t.i).vy⟩:V2) t.S.g) (IntKind.i64.wrap (1024 - t.S.drag))).x) (-16384) 16384) hM4) ?_)
    rintro _ T23 hM24
    refine RD.fin<|ae 1 [] λ _=>RN.draw [11] []<|aJ [] [0,4,6,1,5,7,2,3,9,10] [.nw,.own 0,.own 2] [bg ((af t.S t.i)+3)]<|au [] 8 (λ X_=>(cB ((aq (aE (⟨(ar t.S (M.set ((af t.S t.i)+6) 0) t.i).vx,(ar t.S (M.set ((af t.S t.i)+6) 0) t.i).vy⟩:V2) t.S.g) (IntKind.i64.wrap (1024 - t.S.drag))).y) (-16384) 16384  _))<|RD.one 11 (RDO.ct [] [] [0] (ak ((af t.S t.i)+3) (aG ((aq (aE (⟨(ar t.S (M.set ((af t.S t.i)+6) 0) t.i).vx,(ar t.S (M.set ((af t.S t.i)+6) 0) t.i).vy⟩:V2) t.S.g) (IntKind.i64.wrap (1024 - t.S.drag))).y) (-16384) 16384) hM24) ?_)
    rintro _ T25 hM26
    refine RD.fin<|ae 3 [] λ _=>RN.draw [] []<|ag [] [0,5,1,6,2,7,3,8,4,9,10,11] [.own 2,.own 2]<|RD.fin<|ae 1 [] λ _=>RN.em (IntKind.i64.wrap (t.i+1) < (t.S.nb:Int)) 141 (λ h27=>?_) λ h27=>?_
    ·refine ae 2 [] λ _=>RN.draw [11] []<|ag [] [0,4,1,5,2,6,3,7,8,9,10] [.own 2,.own 2]<|RD.one 11 (RDO.ct [] [] [0] (ak 2 (IntKind.i64.wrap (t.i+1)) hM26) ?_)
     rintro _ T28 hM29
     refine RD.fin<|ae 1 [] λ _=>RN.ret [] [2] [0] (v:=.tuple #[]) (H':=(ap [(tb,.lit (Stp.l t mb) 267 (0,0))] [T28])) ?_
     refine ⟨T28,rfl,?_⟩
     have e:(aR t M)=((((M.set ((af t.S t.i)+6) 0).set ((af t.S t.i)+2) (aG ((aq (aE (⟨(ar t.S (M.set ((af t.S t.i)+6) 0) t.i).vx,(ar t.S (M.set ((af t.S t.i)+6) 0) t.i).vy⟩:V2) t.S.g) (IntKind.i64.wrap (1024 - t.S.drag))).x) (-16384) 16384)).set ((af t.S t.i)+3) (aG ((aq (aE (⟨(ar t.S (M.set ((af t.S t.i)+6) 0) t.i).vx,(ar t.S (M.set ((af t.S t.i)+6) 0) t.i).vy⟩:V2) t.S.g) (IntKind.i64.wrap (1024 - t.S.drag))).y) (-16384) 16384)).set 2 (IntKind.i64.wrap (t.i+1))):=by
      first | (simp only [aR,bJ,bL,b7,b6,if_pos h2,if_pos h5,if_neg h9,if_pos h27];done) | (simp only [aR,bJ,bL,b7,b6,if_pos h2,if_pos h5,if_neg h9,if_pos h27];rfl) | rfl
     rw [e]
     exact hM29.weak (by omega)
    ·refine ae 6 [] λ _=>RN.ct [2] [0] (bK t 4 1 tb mb (((M.set ((af t.S t.i)+6) 0).set ((af t.S t.i)+2) (aG ((aq (aE (⟨(ar t.S (M.set ((af t.S t.i)+6) 0) t.i).vx,(ar t.S (M.set ((af t.S t.i)+6) 0) t.i).vy⟩:V2) t.S.g) (IntKind.i64.wrap (1024 - t.S.drag))).x) (-16384) 16384)).set ((af t.S t.i)+3) (aG ((aq (aE (⟨(ar t.S (M.set ((af t.S t.i)+6) 0) t.i).vx,(ar t.S (M.set ((af t.S t.i)+6) 0) t.i).vy⟩:V2) t.S.g) (IntKind.i64.wrap (1024 - t.S.drag))).y) (-16384) 16384)) (k+2) T25 _ hM26 hS.up ) ?_
     rintro _ T30 hM31
     refine ae 7 [.own 0] λ _=>RN.ct [] [0] (ak 4 0 hM31) ?_
     rintro _ T32 hM33
     refine ae 1 [] λ _=>RN.ret [] [0] [0] (v:=.tuple #[]) (H':=(ap [(tb,.lit (Stp.l t mb) 267 (0,0))] [T32])) ?_
     refine ⟨T32,rfl,?_⟩
     have e:(aR t M)=((aM t 4 1 (((M.set ((af t.S t.i)+6) 0).set ((af t.S t.i)+2) (aG ((aq (aE (⟨(ar t.S (M.set ((af t.S t.i)+6) 0) t.i).vx,(ar t.S (M.set ((af t.S t.i)+6) 0) t.i).vy⟩:V2) t.S.g) (IntKind.i64.wrap (1024 - t.S.drag))).x) (-16384) 16384)).set ((af t.S t.i)+3) (aG ((aq (aE (⟨(ar t.S (M.set ((af t.S t.i)+6) 0) t.i).vx,(ar t.S (M.set ((af t.S t.i)+6) 0) t.i).vy⟩:V2) t.S.g) (IntKind.i64.wrap (1024 - t.S.drag))).y) (-16384) 16384))).set 4 0):=by
      first | (simp only [aR,bJ,bL,b7,b6,if_pos h2,if_pos h5,if_neg h9,if_neg h27];done) | (simp only [aR,bJ,bL,b7,b6,if_pos h2,if_pos h5,if_neg h9,if_neg h27];rfl) | rfl
     rw [e]
     exact hM33.weak (by omega)
  ·refine ae 5 [] λ _=>RN.draw [] []<|ag [] [0,5,1,6,2,7,3,8,4,9,10,11] [.own 0,.own 0]<|RD.fin<|ae 1 [] λ _=>RN.em (IntKind.i64.wrap (t.i+1) < (t.S.nb:Int)) 141 (λ h34=>?_) λ h34=>?_
   ·refine ae 2 [] λ _=>RN.draw [11] []<|ag [] [0,4,1,5,2,6,3,7,8,9,10] [.own 0,.own 0]<|RD.one 11 (RDO.ct [] [] [0] (ak 2 (IntKind.i64.wrap (t.i+1)) hM4) ?_)
    rintro _ T35 hM36
    refine RD.fin<|ae 1 [] λ _=>RN.ret [] [0] [0] (v:=.tuple #[]) (H':=(ap [(tb,.lit (Stp.l t mb) 267 (0,0))] [T35])) ?_
    refine ⟨T35,rfl,?_⟩
    have e:(aR t M)=((M.set ((af t.S t.i)+6) 0).set 2 (IntKind.i64.wrap (t.i+1))):=by
     first | (simp only [aR,bJ,bL,b7,b6,if_pos h2,if_neg h5,if_pos h34];done) | (simp only [aR,bJ,bL,b7,b6,if_pos h2,if_neg h5,if_pos h34];rfl) | rfl
    rw [e]
    exact hM36.weak (by omega)
   ·refine ae 6 [] λ _=>RN.ct [0] [0] (bK t 4 1 tb mb (M.set ((af t.S t.i)+6) 0) (k+4) T3 _ hM4 hS.up ) ?_
    rintro _ T37 hM38
    refine ae 7 [.own 0] λ _=>RN.ct [] [0] (ak 4 0 hM38) ?_
    rintro _ T39 hM40
    refine ae 1 [] λ _=>RN.ret [] [0] [0] (v:=.tuple #[]) (H':=(ap [(tb,.lit (Stp.l t mb) 267 (0,0))] [T39])) ?_
    refine ⟨T39,rfl,?_⟩
    have e:(aR t M)=((aM t 4 1 (M.set ((af t.S t.i)+6) 0)).set 4 0):=by
     first | (simp only [aR,bJ,bL,b7,b6,if_pos h2,if_neg h5,if_neg h34];done) | (simp only [aR,bJ,bL,b7,b6,if_pos h2,if_neg h5,if_neg h34];rfl) | rfl
    rw [e]
    exact hM40.weak (by omega)
 ·refine ae 11 [.own 0] λ _=>aj (i4 t t.i tb mb _ (aB 0) hS.up)<|ae 2 [] λ _=>RN.em (movP t.S t.i) 32 (λ h41=>?_) λ h41=>?_
  ·have:=movP.has h41
   refine ae 8 [.own 0] λ _=>aj (fm t t.i tb mb M _ T _ (aB 0) hS.up hM (av 0) (movP.has h41))<|ae 5 (ow 0 5) λ n42=>RN.draw [9] []<|ag [] [0,2,1,3,4,5,6] [.own 0,.own 0,.own 1,.own 1]<|au [] 7 (λ X_=>(dZ (⟨(ar t.S M t.i).vx,(ar t.S M t.i).vy⟩:V2) t.S.g  _))<|RD.one 8 (RDO.ev [] [] λ n43=>?_)
   refine RD.one 9 (RDO.ev [] [.own 0,.own 0] λ _=>?_)
   refine RD.fin<|ae 3 [] λ _=>RN.draw [] []<|ag [] [0,4,1,5,2,6,3,7] (ow 2 17)<|au [] 8 (λ X_=>(gm t.S t.i _ hS.toSetN)) ?_
   have hb44:=gl hS.toSetN t.i
   refine ag [] [9] []<|RD.fin<|ae 7 [] λ _=>RN.em (ah t.S t.i >= 0) 57 (λ h45=>?_) λ h45=>?_
   ·refine ae 2 [] λ _=>RN.draw [] []<|aJ [] [0,4,7,11,1,5,8,12,2,9,3,10] [.nw,.nw,.own 2,.own 2] [bg ((ah t.S t.i)+1),bg ((ah t.S t.i)+0)]<|au [] 6 (λ X_=>(az ((ah t.S t.i)+0) hM (aU 0)))<|au [] 13 (λ X_=>(az ((ah t.S t.i)+1) hM (aU 0)))<|ag [] [14,15] []<|RD.fin<|ae 1 [] λ _=>RN.draw [17] []<|ag [] [0,1,2,8,9,3,10,4,11,5,12,6,13,7,14,15] [.own 0,.own 0,.own 2,.own 2]<|au [] 16 (λ X_=>(dZ (aE (⟨(ar t.S M t.i).vx,(ar t.S M t.i).vy⟩:V2) t.S.g) (⟨IntKind.i64.wrap ((M.get ((ah t.S t.i)+0)) * t.S.push),IntKind.i64.wrap ((M.get ((ah t.S t.i)+1)) * t.S.push)⟩:V2)  _))<|RD.one 17 (RDO.ev [] [.own 0,.own 0] λ _=>?_)
    refine RD.fin<|ae 2 [] λ _=>RN.draw [8] []<|ag [] [0,1,2,3,4,5,6] [.own 0,.own 0,.own 2]<|au [] 7 (λ X_=>(eI (aE (aE (⟨(ar t.S M t.i).vx,(ar t.S M t.i).vy⟩:V2) t.S.g) (⟨IntKind.i64.wrap ((M.get ((ah t.S t.i)+0)) * t.S.push),IntKind.i64.wrap ((M.get ((ah t.S t.i)+1)) * t.S.push)⟩:V2)) (IntKind.i64.wrap (1024 - t.S.drag))  _))<|RD.one 8 (RDO.ev [] [.own 0,.own 0] λ _=>?_)
    refine RD.fin<|ae 2 [] λ _=>RN.draw [] []<|ag [] [0,4,1,5,2,6,3,7] (ow 2 17)<|au [] 8 (λ X_=>(cI t.S t.i _ hS.toSetN)) ?_
    have hb46:=cH hS.toSetN t.i
    refine ag [] [9] []<|RD.fin<|ae 2 [] λ _=>RN.draw [11] []<|aJ [] [0,4,6,1,5,7,2,3,9,10] [.nw,.own 0,.own 2] [bg ((af t.S t.i)+2)]<|au [] 8 (λ X_=>(cB ((aq (aE (aE (⟨(ar t.S M t.i).vx,(ar t.S M t.i).vy⟩:V2) t.S.g) (⟨IntKind.i64.wrap ((M.get ((ah t.S t.i)+0)) * t.S.push),IntKind.i64.wrap ((M.get ((ah t.S t.i)+1)) * t.S.push)⟩:V2)) (IntKind.i64.wrap (1024 - t.S.drag))).x) (-16384) 16384  _))<|RD.one 11 (RDO.ct [] [] [0] (ak ((af t.S t.i)+2) (aG ((aq (aE (aE (⟨(ar t.S M t.i).vx,(ar t.S M t.i).vy⟩:V2) t.S.g) (⟨IntKind.i64.wrap ((M.get ((ah t.S t.i)+0)) * t.S.push),IntKind.i64.wrap ((M.get ((ah t.S t.i)+1)) * t.S.push)⟩:V2)) (IntKind.i64.wrap (1024 - t.S.drag))).x) (-16384) 16384) hM) ?_)
    rintro _ T47 hM48
    refine RD.fin<|ae 1 [] λ _=>RN.draw [11] []<|aJ [] [0,4,6,1,5,7,2,3,9,10] [.nw,.own 0,.own 2] [bg ((af t.S t.i)+3)]<|au [] 8 (λ X_=>(cB ((aq (aE (aE (⟨(ar t.S M t.i).vx,(ar t.S M t.i).vy⟩:V2) t.S.g) (⟨IntKind.i64.wrap ((M.get ((ah t.S t.i)+0)) * t.S.push),IntKind.i64.wrap ((M.get ((ah t.S t.i)+1)) * t.S.push)⟩:V2)) (IntKind.i64.wrap (1024 - t.S.drag))).y) (-16384) 16384  _))<|RD.one 11 (RDO.ct [] [] [0] (ak ((af t.S t.i)+3) (aG ((aq (aE (aE (⟨(ar t.S M t.i).vx,(ar t.S M t.i).vy⟩:V2) t.S.g) (⟨IntKind.i64.wrap ((M.get ((ah t.S t.i)+0)) * t.S.push),IntKind.i64.wrap ((M.get ((ah t.S t.i)+1)) * t.S.push)⟩:V2)) (IntKind.i64.wrap (1024 - t.S.drag))).y) (-16384) 16384) hM48) ?_)
    rintro _ T49 hM50
    refine RD.fin<|ae 3 [] λ _=>RN.draw [] []<|ag [] [0,5,1,6,2,7,3,8,4,9,10,11] [.own 2,.own 2]<|RD.fin<|ae 1 [] λ _=>RN.em (IntKind.i64.wrap (t.i+1) < (t.S.nb:Int)) 141 (λ h51=>?_) λ h51=>?_
    ·refine ae 2 [] λ _=>RN.draw [11] []<|ag [] [0,4,1,5,2,6,3,7,8,9,10] [.own 2,.own 2]<|RD.one 11 (RDO.ct [] [] [0] (ak 2 (IntKind.i64.wrap (t.i+1)) hM50) ?_)
     rintro _ T52 hM53
     refine RD.fin<|ae 1 [] λ _=>RN.ret [] [2] [0] (v:=.tuple #[]) (H':=(ap [(tb,.lit (Stp.l t mb) 267 (0,0))] [T52])) ?_
     refine ⟨T52,rfl,?_⟩
     have e:(aR t M)=(((M.set ((af t.S t.i)+2) (aG ((aq (aE (aE (⟨(ar t.S M t.i).vx,(ar t.S M t.i).vy⟩:V2) t.S.g) (⟨IntKind.i64.wrap ((M.get ((ah t.S t.i)+0)) * t.S.push),IntKind.i64.wrap ((M.get ((ah t.S t.i)+1)) * t.S.push)⟩:V2)) (IntKind.i64.wrap (1024 - t.S.drag))).x) (-16384) 16384)).set ((af t.S t.i)+3) (aG ((aq (aE (aE (⟨(ar t.S M t.i).vx,(ar t.S M t.i).vy⟩:V2) t.S.g) (⟨IntKind.i64.wrap ((M.get ((ah t.S t.i)+0)) * t.S.push),IntKind.i64.wrap ((M.get ((ah t.S t.i)+1)) * t.S.push)⟩:V2)) (IntKind.i64.wrap (1024 - t.S.drag))).y) (-16384) 16384)).set 2 (IntKind.i64.wrap (t.i+1))):=by
      first | (simp only [aR,bJ,bL,b7,b6,if_neg h2,if_pos h41,if_pos h45,if_pos h51];done) | (simp only [aR,bJ,bL,b7,b6,if_neg h2,if_pos h41,if_pos h45,if_pos h51];rfl) | rfl
     rw [e]
     exact hM53.weak (by omega)
    ·refine ae 6 [] λ _=>RN.ct [2] [0] (bK t 4 1 tb mb ((M.set ((af t.S t.i)+2) (aG ((aq (aE (aE (⟨(ar t.S M t.i).vx,(ar t.S M t.i).vy⟩:V2) t.S.g) (⟨IntKind.i64.wrap ((M.get ((ah t.S t.i)+0)) * t.S.push),IntKind.i64.wrap ((M.get ((ah t.S t.i)+1)) * t.S.push)⟩:V2)) (IntKind.i64.wrap (1024 - t.S.drag))).x) (-16384) 16384)).set ((af t.S t.i)+3) (aG ((aq (aE (aE (⟨(ar t.S M t.i).vx,(ar t.S M t.i).vy⟩:V2) t.S.g) (⟨IntKind.i64.wrap ((M.get ((ah t.S t.i)+0)) * t.S.push),IntKind.i64.wrap ((M.get ((ah t.S t.i)+1)) * t.S.push)⟩:V2)) (IntKind.i64.wrap (1024 - t.S.drag))).y) (-16384) 16384)) (k+3) T49 _ hM50 hS.up ) ?_
     rintro _ T54 hM55
     refine ae 7 [.own 0] λ _=>RN.ct [] [0] (ak 4 0 hM55) ?_
     rintro _ T56 hM57
     refine ae 1 [] λ _=>RN.ret [] [0] [0] (v:=.tuple #[]) (H':=(ap [(tb,.lit (Stp.l t mb) 267 (0,0))] [T56])) ?_
     refine ⟨T56,rfl,?_⟩
     have e:(aR t M)=((aM t 4 1 ((M.set ((af t.S t.i)+2) (aG ((aq (aE (aE (⟨(ar t.S M t.i).vx,(ar t.S M t.i).vy⟩:V2) t.S.g) (⟨IntKind.i64.wrap ((M.get ((ah t.S t.i)+0)) * t.S.push),IntKind.i64.wrap ((M.get ((ah t.S t.i)+1)) * t.S.push)⟩:V2)) (IntKind.i64.wrap (1024 - t.S.drag))).x) (-16384) 16384)).set ((af t.S t.i)+3) (aG ((aq (aE (aE (⟨(ar t.S M t.i).vx,(ar t.S M t.i).vy⟩:V2) t.S.g) (⟨IntKind.i64.wrap ((M.get ((ah t.S t.i)+0)) * t.S.push),IntKind.i64.wrap ((M.get ((ah t.S t.i)+1)) * t.S.push)⟩:V2)) (IntKind.i64.wrap (1024 - t.S.drag))).y) (-16384) 16384))).set 4 0):=by
      first | (simp only [aR,bJ,bL,b7,b6,if_neg h2,if_pos h41,if_pos h45,if_neg h51];done) | (simp only [aR,bJ,bL,b7,b6,if_neg h2,if_pos h41,if_pos h45,if_neg h51];rfl) | rfl
     rw [e]
     exact hM57.weak (by omega)
   ·refine ae 4 [] λ _=>RN.draw [8] []<|ag [] [0,1,2,3,4,5,6] [.own 0,.own 0,.own 2]<|au [] 7 (λ X_=>(eI (aE (⟨(ar t.S M t.i).vx,(ar t.S M t.i).vy⟩:V2) t.S.g) (IntKind.i64.wrap (1024 - t.S.drag))  _))<|RD.one 8 (RDO.ev [] [.own 0,.own 0] λ _=>?_)
    refine RD.fin<|ae 2 [] λ _=>RN.draw [] []<|ag [] [0,4,1,5,2,6,3,7] (ow 2 17)<|au [] 8 (λ X_=>(cI t.S t.i _ hS.toSetN)) ?_
    have hb58:=cH hS.toSetN t.i
    refine ag [] [9] []<|RD.fin<|ae 2 [] λ _=>RN.draw [11] []<|aJ [] [0,4,6,1,5,7,2,3,9,10] [.nw,.own 0,.own 2] [bg ((af t.S t.i)+2)]<|au [] 8 (λ X_=>(cB ((aq (aE (⟨(ar t.S M t.i).vx,(ar t.S M t.i).vy⟩:V2) t.S.g) (IntKind.i64.wrap (1024 - t.S.drag))).x) (-16384) 16384  _))<|RD.one 11 (RDO.ct [] [] [0] (ak ((af t.S t.i)+2) (aG ((aq (aE (⟨(ar t.S M t.i).vx,(ar t.S M t.i).vy⟩:V2) t.S.g) (IntKind.i64.wrap (1024 - t.S.drag))).x) (-16384) 16384) hM) ?_)
    rintro _ T59 hM60
    refine RD.fin<|ae 1 [] λ _=>RN.draw [11] []<|aJ [] [0,4,6,1,5,7,2,3,9,10] [.nw,.own 0,.own 2] [bg ((af t.S t.i)+3)]<|au [] 8 (λ X_=>(cB ((aq (aE (⟨(ar t.S M t.i).vx,(ar t.S M t.i).vy⟩:V2) t.S.g) (IntKind.i64.wrap (1024 - t.S.drag))).y) (-16384) 16384  _))<|RD.one 11 (RDO.ct [] [] [0] (ak ((af t.S t.i)+3) (aG ((aq (aE (⟨(ar t.S M t.i).vx,(ar t.S M t.i).vy⟩:V2) t.S.g) (IntKind.i64.wrap (1024 - t.S.drag))).y) (-16384) 16384) hM60) ?_)
    rintro _ T61 hM62
    refine RD.fin<|ae 3 [] λ _=>RN.draw [] []<|ag [] [0,5,1,6,2,7,3,8,4,9,10,11] [.own 2,.own 2]<|RD.fin<|ae 1 [] λ _=>RN.em (IntKind.i64.wrap (t.i+1) < (t.S.nb:Int)) 141 (λ h63=>?_) λ h63=>?_
    ·refine ae 2 [] λ _=>RN.draw [11] []<|ag [] [0,4,1,5,2,6,3,7,8,9,10] [.own 2,.own 2]<|RD.one 11 (RDO.ct [] [] [0] (ak 2 (IntKind.i64.wrap (t.i+1)) hM62) ?_)
     rintro _ T64 hM65
     refine RD.fin<|ae 1 [] λ _=>RN.ret [] [2] [0] (v:=.tuple #[]) (H':=(ap [(tb,.lit (Stp.l t mb) 267 (0,0))] [T64])) ?_
     refine ⟨T64,rfl,?_⟩
     have e:(aR t M)=(((M.set ((af t.S t.i)+2) (aG ((aq (aE (⟨(ar t.S M t.i).vx,(ar t.S M t.i).vy⟩:V2) t.S.g) (IntKind.i64.wrap (1024 - t.S.drag))).x) (-16384) 16384)).set ((af t.S t.i)+3) (aG ((aq (aE (⟨(ar t.S M t.i).vx,(ar t.S M t.i).vy⟩:V2) t.S.g) (IntKind.i64.wrap (1024 - t.S.drag))).y) (-16384) 16384)).set 2 (IntKind.i64.wrap (t.i+1))):=by
      first | (simp only [aR,bJ,bL,b7,b6,if_neg h2,if_pos h41,if_neg h45,if_pos h63];done) | (simp only [aR,bJ,bL,b7,b6,if_neg h2,if_pos h41,if_neg h45,if_pos h63];rfl) | rfl
     rw [e]
     exact hM65.weak (by omega)
    ·refine ae 6 [] λ _=>RN.ct [2] [0] (bK t 4 1 tb mb ((M.set ((af t.S t.i)+2) (aG ((aq (aE (⟨(ar t.S M t.i).vx,(ar t.S M t.i).vy⟩:V2) t.S.g) (IntKind.i64.wrap (1024 - t.S.drag))).x) (-16384) 16384)).set ((af t.S t.i)+3) (aG ((aq (aE (⟨(ar t.S M t.i).vx,(ar t.S M t.i).vy⟩:V2) t.S.g) (IntKind.i64.wrap (1024 - t.S.drag))).y) (-16384) 16384)) (k+3) T61 _ hM62 hS.up ) ?_
     rintro _ T66 hM67
     refine ae 7 [.own 0] λ _=>RN.ct [] [0] (ak 4 0 hM67) ?_
     rintro _ T68 hM69
     refine ae 1 [] λ _=>RN.ret [] [0] [0] (v:=.tuple #[]) (H':=(ap [(tb,.lit (Stp.l t mb) 267 (0,0))] [T68])) ?_
     refine ⟨T68,rfl,?_⟩
     have e:(aR t M)=((aM t 4 1 ((M.set ((af t.S t.i)+2) (aG ((aq (aE (⟨(ar t.S M t.i).vx,(ar t.S M t.i).vy⟩:V2) t.S.g) (IntKind.i64.wrap (1024 - t.S.drag))).x) (-16384) 16384)).set ((af t.S t.i)+3) (aG ((aq (aE (⟨(ar t.S M t.i).vx,(ar t.S M t.i).vy⟩:V2) t.S.g) (IntKind.i64.wrap (1024 - t.S.drag))).y) (-16384) 16384))).set 4 0):=by
      first | (simp only [aR,bJ,bL,b7,b6,if_neg h2,if_pos h41,if_neg h45,if_neg h63];done) | (simp only [aR,bJ,bL,b7,b6,if_neg h2,if_pos h41,if_neg h45,if_neg h63];rfl) | rfl
     rw [e]
     exact hM69.weak (by omega)
  ·refine ae 5 [] λ _=>RN.draw [] []<|ag [] [0,5,1,6,2,7,3,8,4,9,10,11] [.own 0,.own 0]<|RD.fin<|ae 1 [] λ _=>RN.em (IntKind.i64.wrap (t.i+1) < (t.S.nb:Int)) 141 (λ h70=>?_) λ h70=>?_
   ·refine ae 2 [] λ _=>RN.draw [11] []<|ag [] [0,4,1,5,2,6,3,7,8,9,10] [.own 0,.own 0]<|RD.one 11 (RDO.ct [] [] [0] (ak 2 (IntKind.i64.wrap (t.i+1)) hM) ?_)
    rintro _ T71 hM72
    refine RD.fin<|ae 1 [] λ _=>RN.ret [] [0] [0] (v:=.tuple #[]) (H':=(ap [(tb,.lit (Stp.l t mb) 267 (0,0))] [T71])) ?_
    refine ⟨T71,rfl,?_⟩
    have e:(aR t M)=(M.set 2 (IntKind.i64.wrap (t.i+1))):=by
     first | (simp only [aR,bJ,bL,b7,b6,if_neg h2,if_neg h41,if_pos h70];done) | (simp only [aR,bJ,bL,b7,b6,if_neg h2,if_neg h41,if_pos h70];rfl) | rfl
    rw [e]
    exact hM72.weak (by omega)
   ·refine ae 6 [] λ _=>RN.ct [0] [0] (bK t 4 1 tb mb M (k+5) T _ hM hS.up ) ?_
    rintro _ T73 hM74
    refine ae 7 [.own 0] λ _=>RN.ct [] [0] (ak 4 0 hM74) ?_
    rintro _ T75 hM76
    refine ae 1 [] λ _=>RN.ret [] [0] [0] (v:=.tuple #[]) (H':=(ap [(tb,.lit (Stp.l t mb) 267 (0,0))] [T75])) ?_
    refine ⟨T75,rfl,?_⟩
    have e:(aR t M)=((aM t 4 1 M).set 4 0):=by
     first | (simp only [aR,bJ,bL,b7,b6,if_neg h2,if_neg h41,if_neg h70];done) | (simp only [aR,bJ,bL,b7,b6,if_neg h2,if_neg h41,if_neg h70];rfl) | rfl
    rw [e]
    exact hM76.weak (by omega)
theorem xU (t:Stp)  (tb mb:Nat) (M:MemS) (k:Nat) (T F:HL) (hM:MemH mb M (k+4) T) (hS:SetIn F t.S) (hi:movP t.S t.i):Sp Tryz.prog 190 #[vP tb 0] (ap [(tb,.lit (Stp.l t mb) 267 (0,0))] [T]) F (λ u H'=>∃ x,H'=ap [(tb,.lit (Stp.l t mb) 267 (0,0))] [x] /\ (MemH mb (cZ t M) k x)):=by
 have hp:=hS.pl
 have hn:=hS.nb
 have hr:=hS.room
 refine Sp.run Tryz.func190 rfl (mc hS.blk mn) (A:=[(tb,.lit (Stp.l t mb) 267 (0,0))]) (Ts:=[T]) rfl λ w0=>?_
 refine ae 7 [.own 0] λ _=>aj (fm t t.i tb mb M _ T _ (aB 0) hS.up hM (av 0) (movP.has hi))<|ae 10 (ow 0 5++[.own 1]) λ n1=>aj (az 5 hM (av 0))<|ae 6 [] λ _=>RN.draw [8] []<|ag [] [0,2,4,1,3] [.own 0,.own 0,.own 0,.own 0]<|au [] 5 (λ X_=>(kI (⟨(ar t.S M t.i).vx,(ar t.S M t.i).vy⟩:V2) (if IntKind.i64.wrap ((M.get 5)+128) < 1024 then IntKind.i64.wrap ((M.get 5)+128) else 1024) 1024  _))<|au [] 6 (λ X_=>(dZ (⟨(ar t.S M t.i).px,(ar t.S M t.i).py⟩:V2) (eD (⟨(ar t.S M t.i).vx,(ar t.S M t.i).vy⟩:V2) (if IntKind.i64.wrap ((M.get 5)+128) < 1024 then IntKind.i64.wrap ((M.get 5)+128) else 1024) 1024)  _))<|RD.one 7 (RDO.ev [] [] λ n2=>?_)
 refine RD.one 8 (RDO.ev [] [.own 0,.own 0] λ _=>?_)
 refine RD.fin<|ae 2 [] λ _=>RN.draw [16] []<|ag [] [0,4,9,1,5,10,2,6,11,3,7,12,13] (ow 2 21)<|au [] 8 (λ X_=>(cI t.S t.i _ hS.toSetN)) ?_
 have hb3:=cH hS.toSetN t.i
 refine RD.one 14 (RDO.ev [] [] λ n4=>?_)
 refine ag [] [15] []<|RD.one 16 (RDO.ev [] [.own 0,.own 0,.own 0,.own 0] λ _=>?_)
 refine RD.fin<|ai 14 [.nw,.nw,.own 1,.own 0,.own 0] [bg ((af t.S t.i)+2),bg ((af t.S t.i)+0)] λ _=>RN.ct [3] [0] (sj t ((af t.S t.i)+0) ((af t.S t.i)+2) ((aE (⟨(ar t.S M t.i).px,(ar t.S M t.i).py⟩:V2) (eD (⟨(ar t.S M t.i).vx,(ar t.S M t.i).vy⟩:V2) (if IntKind.i64.wrap ((M.get 5)+128) < 1024 then IntKind.i64.wrap ((M.get 5)+128) else 1024) 1024)).x) t.S.box.x0 t.S.box.x1 tb mb M (k+2) T _ hM hS.up ) ?_
 rintro _ T5 hM6
 refine ai 14 [.nw,.nw,.own 2,.own 1,.own 1] [bg ((af t.S t.i)+3),bg ((af t.S t.i)+1)] λ _=>RN.ct [0] [0] (sj t ((af t.S t.i)+1) ((af t.S t.i)+3) ((aE (⟨(ar t.S M t.i).px,(ar t.S M t.i).py⟩:V2) (eD (⟨(ar t.S M t.i).vx,(ar t.S M t.i).vy⟩:V2) (if IntKind.i64.wrap ((M.get 5)+128) < 1024 then IntKind.i64.wrap ((M.get 5)+128) else 1024) 1024)).y) t.S.box.y0 t.S.box.y1 tb mb (d5 t ((af t.S t.i)+0) ((af t.S t.i)+2) ((aE (⟨(ar t.S M t.i).px,(ar t.S M t.i).py⟩:V2) (eD (⟨(ar t.S M t.i).vx,(ar t.S M t.i).vy⟩:V2) (if IntKind.i64.wrap ((M.get 5)+128) < 1024 then IntKind.i64.wrap ((M.get 5)+128) else 1024) 1024)).x) t.S.box.x0 t.S.box.x1 M) k T5 _ hM6 hS.up ) ?_
 rintro _ T7 hM8
 refine ae 1 [] λ _=>RN.ret [] [0] [0] (v:=.tuple #[]) (H':=(ap [(tb,.lit (Stp.l t mb) 267 (0,0))] [T7])) ?_
 refine ⟨T7,rfl,?_⟩
 have e:(cZ t M)=(d5 t ((af t.S t.i)+1) ((af t.S t.i)+3) ((aE (⟨(ar t.S M t.i).px,(ar t.S M t.i).py⟩:V2) (eD (⟨(ar t.S M t.i).vx,(ar t.S M t.i).vy⟩:V2) (if IntKind.i64.wrap ((M.get 5)+128) < 1024 then IntKind.i64.wrap ((M.get 5)+128) else 1024) 1024)).y) t.S.box.y0 t.S.box.y1 (d5 t ((af t.S t.i)+0) ((af t.S t.i)+2) ((aE (⟨(ar t.S M t.i).px,(ar t.S M t.i).py⟩:V2) (eD (⟨(ar t.S M t.i).vx,(ar t.S M t.i).vy⟩:V2) (if IntKind.i64.wrap ((M.get 5)+128) < 1024 then IntKind.i64.wrap ((M.get 5)+128) else 1024) 1024)).x) t.S.box.x0 t.S.box.x1 M)):=by
  first | (simp only [cZ,gc,lh,if_pos hi];done) | (simp only [cZ,gc,lh,if_pos hi];rfl) | rfl
 rw [e]
 exact hM8.weak (by omega)
theorem ShIn.up {F X:HL} {s:Shp} (h:ShIn F s):ShIn (X++F) s:=h.mono λ x hx=>List.mem_append_right _ hx
def isZ (a:V2):Prop:=((decide (a.x=0) && (decide (a.y=0) && true)))=true
instance (a:V2):Decidable (isZ a):=inferInstanceAs (Decidable (_=true))
def gL (a:V2):V2:=if isZ (kj a) then ⟨1024,0⟩ else kj a
def gn (pos ax:V2) (l:List V2):Nat -> Int × Int
 | 0=>(0,0)
 | k+1=>if (k:Int)=0 then (if cW (aE pos (l.getD k ⟨0,0⟩)) ax < cW (aE pos (l.getD k ⟨0,0⟩)) ax then cW (aE pos (l.getD k ⟨0,0⟩)) ax else cW (aE pos (l.getD k ⟨0,0⟩)) ax,if cW (aE pos (l.getD k ⟨0,0⟩)) ax > cW (aE pos (l.getD k ⟨0,0⟩)) ax then cW (aE pos (l.getD k ⟨0,0⟩)) ax else cW (aE pos (l.getD k ⟨0,0⟩)) ax)
  else (if cW (aE pos (l.getD k ⟨0,0⟩)) ax < (gn pos ax l k).1 then cW (aE pos (l.getD k ⟨0,0⟩)) ax else (gn pos ax l k).1,if cW (aE pos (l.getD k ⟨0,0⟩)) ax > (gn pos ax l k).2 then cW (aE pos (l.getD k ⟨0,0⟩)) ax else (gn pos ax l k).2)
def iy (s:Shp) (pos ax:V2):Int × Int:=if jg s then (bd (cW pos ax - s.r),bd (cW pos ax+s.r)) else gn pos ax s.poly s.poly.length
def ml (a:Shp) (pa:V2) (b:Shp) (pb ax:V2):Int:=bd ((if (iy b pb ax).2 < (iy a pa ax).2 then (iy b pb ax).2 else (iy a pa ax).2) - (if (iy b pb ax).1 > (iy a pa ax).1 then (iy b pb ax).1 else (iy a pa ax).1))
def L6 (off v:V2):Int:=bd (bd ((aE off v).x * (aE off v).x)+bd ((aE off v).y * (aE off v).y))
def eJ (off:V2) (l:List V2):Nat -> V2 × Int
 | 0=>(l.getD 0 ⟨0,0⟩,L6 off (l.getD 0 ⟨0,0⟩))
 | k+1=>if L6 off (l.getD (1+k) ⟨0,0⟩) < (eJ off l k).2 then (l.getD (1+k) ⟨0,0⟩,L6 off (l.getD (1+k) ⟨0,0⟩)) else eJ off l k
def jh (c:V2) (s:Shp) (pos:V2):V2:=aE (dm pos c) (eJ (dm pos c) s.poly (s.poly.length - 1)).1
theorem iz (a:V2)  (F:HL):Sp Tryz.prog 252 #[.agg #[vI a.x,vI a.y]] [] F (λ u H'=>u=.agg #[vI ((gL a).x),vI ((gL a).y)] /\ H'=[]):=by
 refine Sp.run Tryz.func252 rfl mn (A:=[]) (Ts:=[]) rfl λ w0=>?_
 refine ae 10 [.own 1,.own 1] λ n1=>aj (BB a  _)<|ae 11 [.own 0,.own 0,.own 0,.own 0,.sq] λ n2=>uO ((decide ((kj a).x=0) && (decide ((kj a).y=0) && true))) 8 (λ h3=>?_) λ h3=>?_
 ·refine ae 9 [.own 1,.own 1] λ _=>RN.ret [.own 1,.own 1] [] [] (v:=.agg #[vI 1024,vI 0]) (H':=[]) ?_
  refine ⟨?_,rfl⟩
  first | rw [show gL a=⟨1024,0⟩ from if_pos (by assumption)] | rw [show gL a=kj a from if_neg (by assumption)]
 ·refine ae 7 [.own 0,.own 0,.own 1,.own 1] λ _=>RN.ret [.own 1,.own 1] [] [] (v:=.agg #[vI ((kj a).x),vI ((kj a).y)]) (H':=[]) ?_
  refine ⟨?_,rfl⟩
  first | rw [show gL a=⟨1024,0⟩ from if_pos (by assumption)] | rw [show gL a=kj a from if_neg (by assumption)]
theorem u9 (r:Int) (A:Option Addr) (cap:Nat) (pos ax:V2) (F:HL):Sp Tryz.prog 255 #[.agg #[vI r,.slice A 0 cap],.agg #[vI pos.x,vI pos.y],.agg #[vI ax.x,vI ax.y]] [] F (λ u H'=>u=.tuple #[vI (iy ⟨r,[],A,cap⟩ pos ax).1,vI (iy ⟨r,[],A,cap⟩ pos ax).2] /\ H'=[]):=by
 refine Sp.run Tryz.func255 rfl mn (A:=[]) (Ts:=[]) rfl λ w0=>?_
 refine ae 13 [.own 2,.own 2] λ n1=>aj (nM r A 0 cap _)<|ae 7 [.own 1,.own 1,.own 0,.own 0] λ _=>aj (mY pos ax  _)<|ae 4 [] λ _=>RN.draw [] []<|ag [] [0,1,4,5,2,6,3,7,8,9] [.own 2,.own 2]<|RD.fin<|ae 1 [] λ _=>?_
 exact RN.ret [] [] [] ⟨rfl,rfl⟩
theorem BK (r:Int) (l:List V2) (b cap:Nat) (pos ax:V2) (F:HL) (hb:(b,.rows 2 cap (jz l) 30 (0,0)) ∈ F) (hl3:3 <= l.length) (h4:l.length <= cap) (h5:l.length <= 1000000):Sp Tryz.prog 255 #[.agg #[vI r,vS b 0 l.length cap],.agg #[vI pos.x,vI pos.y],.agg #[vI ax.x,vI ax.y]] [] F (λ u H'=>u=.tuple #[vI (iy ⟨r,l,some ⟨b,0,none⟩,cap⟩ pos ax).1,vI (iy ⟨r,l,some ⟨b,0,none⟩,cap⟩ pos ax).2] /\ H'=[]):=by
 refine Sp.run Tryz.func255 rfl (mc hb mn) (A:=[]) (Ts:=[]) rfl λ w0=>?_
 refine ae 13 [.own 2,.own 2] λ n1=>aj (nM r (some ⟨b,0,none⟩) l.length cap _)<|ae 2 [] λ _=>RN.fx 13 (decide_eq_false (show ¬ ((l.length:Int)=0) by omega))<|ae 13 [.own 2] λ _=>RN.loop (σ:=Nat) (λ k=>⟨[(4,vP (n1+1) 0),(5,vP (n1+2) 0),(6,vI ((gn pos ax l k).1)),(7,vI ((gn pos ax l k).2)),(26,vS b 0 l.length cap),(27,vI (l.length:Int)),(28,vI (k:Int))],[((n1+2),.lit [vI ax.x,vI ax.y] 30 (0,0)),((n1+1),.lit [vI pos.x,vI pos.y] 30 (0,0)),((n1+0),.lit [vI r,vS b 0 l.length cap] 57 (0,0))],[],k <= l.length,l.length - k⟩) 0 [0,1,2] [] (Nat.zero_le _) ?_
 rintro k hI2 mt3
 refine ae 6 [] λ _=>RN.em ((k:Int) < (l.length:Int)) 29 (λ h4=>?_) λ h4=>?_
 ·refine ai 16 [.ix k,.rorow 0 k 0,.rorow 0 k 1,.own 0,.own 0] [((0+k * 2)+1)=k * 2+1 /\ k < cap,(0+k * 2)=k * 2+0 /\ k < cap,(k:Int)=((k:Nat):Int) /\ k < l.length] λ n5=>RN.draw [] []<|ag [] [0,1,3] [.own 2,.own 2,.own 0,.own 0,.own 1,.own 1]<|au [] 2 (λ X_=>(dZ pos (l.getD k ⟨0,0⟩)  _))<|au [] 4 (λ X_=>(mY (aE pos (l.getD k ⟨0,0⟩)) ax  _))<|ag [] [5] []<|RD.fin<|ae 8 [] λ _=>RN.em ((k:Int)=0) 39 (λ h6=>?_) λ h6=>?_
  ·refine ai 24 [.nw] [bg ((k:Int)+1)] λ _=>?_
   have e_:gn pos ax l (k+1)=(if cW (aE pos (l.getD k ⟨0,0⟩)) ax < cW (aE pos (l.getD k ⟨0,0⟩)) ax then cW (aE pos (l.getD k ⟨0,0⟩)) ax else cW (aE pos (l.getD k ⟨0,0⟩)) ax,if cW (aE pos (l.getD k ⟨0,0⟩)) ax > cW (aE pos (l.getD k ⟨0,0⟩)) ax then cW (aE pos (l.getD k ⟨0,0⟩)) ax else cW (aE pos (l.getD k ⟨0,0⟩)) ax):=by
    rw [gn,if_pos h6]
   refine aK 6 (congrArg (λ v_=>(vI v_:Value)) (congrArg Prod.fst e_).symm)<|aK 7 (congrArg (λ v_=>(vI v_:Value)) (congrArg Prod.snd e_).symm) ?_
   refine mt3 (k+1) [1,2,3] [] ?_
   try dsimp only
   exact ⟨by omega,by omega⟩
  ·refine ai 19 [.nw] [bg ((k:Int)+1)] λ _=>?_
   have e_:gn pos ax l (k+1)=(if cW (aE pos (l.getD k ⟨0,0⟩)) ax < (gn pos ax l k).1 then cW (aE pos (l.getD k ⟨0,0⟩)) ax else (gn pos ax l k).1,if cW (aE pos (l.getD k ⟨0,0⟩)) ax > (gn pos ax l k).2 then cW (aE pos (l.getD k ⟨0,0⟩)) ax else (gn pos ax l k).2):=by
    rw [gn,if_neg h6]
   refine aK 6 (congrArg (λ v_=>(vI v_:Value)) (congrArg Prod.fst e_).symm)<|aK 7 (congrArg (λ v_=>(vI v_:Value)) (congrArg Prod.snd e_).symm) ?_
   refine mt3 (k+1) [1,2,3] [] ?_
   try dsimp only
   exact ⟨by omega,by omega⟩
 ·refine ae 14 [] λ _=>RN.ret [] [] [] (v:=.tuple #[vI ((gn pos ax l k).1),vI ((gn pos ax l k).2)]) (H':=[]) ?_
  have ek:k=l.length:=by omega
  subst ek
  refine ⟨?_,rfl⟩
  unfold iy
  rw [if_neg (by intro e;simp [jg] at e;rw [e] at hl3;simp at hl3)]
theorem vc (s:Shp) (pos ax:V2) (F:HL) (h:ShIn F s):Sp Tryz.prog 255 #[L3 s,.agg #[vI pos.x,vI pos.y],.agg #[vI ax.x,vI ax.y]] [] F (λ u H'=>u=.tuple #[vI (iy s pos ax).1,vI (iy s pos ax).2] /\ H'=[]):=by
 cases h with
 | circle r A cap=>exact u9 r A cap pos ax F
 | poly r l b cap h h3 h4 h5=>exact BK r l b cap pos ax F h h3 h4 h5
theorem BL (a:Shp) (pa:V2) (b:Shp) (pb ax:V2) (F:HL) (ha:ShIn F a) (hb:ShIn F b):Sp Tryz.prog 227 #[.agg #[vI a.r,.slice a.A a.poly.length a.cap],.agg #[vI pa.x,vI pa.y],.agg #[vI b.r,.slice b.A b.poly.length b.cap],.agg #[vI pb.x,vI pb.y],.agg #[vI ax.x,vI ax.y]] [] F (λ u H'=>u=vI (ml a pa b pb ax) /\ H'=[]):=by
 refine Sp.run Tryz.func227 rfl mn (A:=[]) (Ts:=[]) rfl λ w0=>?_
 refine ae 15 [.own 4,.own 4,.own 3,.own 3,.own 0,.own 0] λ n1=>aj (vc a pa ax _ (ha.up))<|ae 12 [.own 2,.own 2,.own 1,.own 1,.own 0,.own 0] λ _=>aj (vc b pb ax _ (hb.up))<|ae 19 [] λ _=>?_
 exact RN.ret [] [] [] ⟨rfl,rfl⟩
theorem zM (v off:V2) (q:Nat) (F:HL) (hq:(q,.lit [vI off.x,vI off.y] 30 (0,0)) ∈ F):Sp Tryz.prog 288 #[.agg #[vI v.x,vI v.y],vP q 0] [] F (λ u H'=>u=vI (L6 off v) /\ H'=[]):=by
 refine Sp.run Tryz.func288 rfl (mc hq mn) (A:=[]) (Ts:=[]) rfl λ w0=>?_
 refine ae 10 [.ro 0,.ro 0,.own 0,.own 0] λ n1=>aj (dZ off v  _)<|ae 20 (ow 0 6) λ n2=>?_
 exact RN.ret [] [] [] ⟨rfl,rfl⟩
theorem BM (l:List V2) (b cap:Nat) (off:V2) (q:Nat) (F:HL) (hb:(b,.rows 2 cap (jz l) 30 (0,0)) ∈ F) (h3:3 <= l.length) (h4:l.length <= cap) (h5:l.length <= 1000000) (hq:(q,.lit [vI off.x,vI off.y] 30 (0,0)) ∈ F):Sp Tryz.prog 287 #[vS b 0 l.length cap,.func (.func 288) #[] #[vP q 0]] [] F (λ u H'=>u=.agg #[vI (((eJ off l (l.length - 1)).1).x),vI (((eJ off l (l.length - 1)).1).y)] /\ H'=[]):=by
 refine Sp.run Tryz.func287 rfl (mc hb (mc hq mn)) (A:=[]) (Ts:=[]) rfl λ w0=>?_
 refine ae 6 [] λ n1=>RN.draw [9] [0]<|aJ [0] [0,3,4,1,5,2,6] [.ix 0,.ix 0,.rorow 0 0 0,.rorow 0 0 1,.rorow 0 0 0,.rorow 0 0 1] [((0+0 * 2)+1)=0 * 2+1 /\ 0 < cap,(0+0 * 2)=0 * 2+0 /\ 0 < cap,((0+0 * 2)+1)=0 * 2+1 /\ 0 < cap,(0+0 * 2)=0 * 2+0 /\ 0 < cap,0=((0:Nat):Int) /\ 0 < l.length,0=((0:Nat):Int) /\ 0 < l.length]<|au [0] 7 (λ X_=>(zM (l.getD 0 ⟨0,0⟩) off q _ (List.mem_append_right _ (List.mem_append_right _ hq))))<|RD.one 8 (RDO.ev [] [] λ n3=>?_)
 refine RD.one 9 (RDO.ev [1] [.own 0,.own 0] λ _=>?_)
 refine ag [1] [10] []<|RD.fin<|ai 11 [.sl 1 l.length false] [1=((1:Nat):Int) /\ l.length=l.length /\ 1 <= l.length /\ l.length <= cap /\ cap ≠ 1] λ _=>RN.loop (σ:=Nat) (λ k=>⟨[(1,.func (.func 288) #[] #[vP q 0]),(4,vP (n1+0) 0),(5,vP (n3+0) 0),(6,vI ((eJ off l k).2)),(19,vS b 2 (l.length - 1) (cap - 1)),(20,vI (((l.length - 1):Nat):Int)),(21,vI (k:Int))],[((n3+0),.lit [vI ((eJ off l k).1.x),vI ((eJ off l k).1.y)] 30 (0,0)),((n1+0),.lit [vI 0,vI 0] 30 (0,0))],[],k <= l.length - 1,l.length - k⟩) 0 [0,1] [] (Nat.zero_le _) ?_
 rintro k hI4 mt5
 refine ae 6 [] λ _=>RN.em ((k:Int) < (((l.length - 1):Nat):Int)) 22 (λ h6=>?_) λ h6=>?_
 ·refine ai 17 [.ix k,.rorow 0 (1+k) 0,.rorow 0 (1+k) 1,.own 0,.own 0,.own 0,.own 0] [((2+k * 2)+1)=(1+k) * 2+1 /\ (1+k) < cap,(2+k * 2)=(1+k) * 2+0 /\ (1+k) < cap,(k:Int)=((k:Nat):Int) /\ k < (l.length - 1)] λ n7=>aj (zM (l.getD (1+k) ⟨0,0⟩) off q _ (List.mem_append_right _ hq))<|ae 10 [] λ _=>RN.em (L6 off (l.getD (1+k) ⟨0,0⟩) < (eJ off l k).2) 30 (λ h8=>?_) λ h8=>?_
  ·refine ai 13 [.own 0,.own 0,.own 1,.own 1,.nw] [bg ((k:Int)+1)] λ _=>?_
   have e_:eJ off l (k+1)=(l.getD (1+k) ⟨0,0⟩,L6 off (l.getD (1+k) ⟨0,0⟩)):=by rw [eJ,if_pos h8]
   refine aK 6 (congrArg (λ v_=>(vI v_:Value)) (congrArg Prod.snd e_).symm)<|cS 1 (congrArg (λ v_=>(.lit [vI v_.1.x,vI v_.1.y] 30 (0,0):Blk)) e_.symm) ?_
   refine mt5 (k+1) [1,2] [] ?_
   try dsimp only
   exact ⟨by omega,by omega⟩
  ·refine ai 8 [.nw] [bg ((k:Int)+1)] λ _=>?_
   have e_:eJ off l (k+1)=eJ off l k:=by rw [eJ,if_neg h8]
   refine aK 6 (congrArg (λ v_=>(vI v_:Value)) (congrArg Prod.snd e_).symm)<|cS 1 (congrArg (λ v_=>(.lit [vI v_.1.x,vI v_.1.y] 30 (0,0):Blk)) e_.symm) ?_
   refine mt5 (k+1) [1,2] [] ?_
   try dsimp only
   exact ⟨by omega,by omega⟩
 ·refine ae 12 [.own 0,.own 0,.own 1,.own 1] λ _=>RN.ret [.own 1,.own 1] [] [] (v:=.agg #[vI ((eJ off l k).1.x),vI ((eJ off l k).1.y)]) (H':=[]) ?_
  have ek:k=l.length - 1:=by omega
  subst ek
  exact ⟨rfl,rfl⟩
def oQ (l:List V2) (k:Nat):V2:=gL ⟨bd ((l.getD (((k:Int)+1) % (l.length:Int)).toNat ⟨0,0⟩).y - (l.getD k ⟨0,0⟩).y),bd ((l.getD k ⟨0,0⟩).x - (l.getD (((k:Int)+1) % (l.length:Int)).toNat ⟨0,0⟩).x)⟩
def nO (l:List V2):List V2:=(List.range l.length).map (oQ l)
def kJ (a:Shp) (pa:V2) (b:Shp) (pb:V2):List V2:=if jg a then if jg b then [gL (dm pb pa)] else [gL (jh pa b pb)] else if jg b then [gL (jh pb a pa)] else []
def aH (a:Shp) (pa:V2) (b:Shp) (pb:V2):List V2:=nO a.poly++(nO b.poly++kJ a pa b pb)
theorem dL (l:List V2):(nO l).length=l.length:=by simp [nO]
theorem p7 {l:List V2} {k:Nat} (h:k < l.length):(nO l)[k]?=some (oQ l k):=by simp [nO,h]
theorem D6 {a:Shp} {pa:V2} {b:Shp} {pb:V2} {k:Nat} (h:k < a.poly.length):(aH a pa b pb)[k]?=some (oQ a.poly k):=by
 unfold aH
 rw [List.getElem?_append_left (by rw [dL];exact h),p7 h]
theorem D7 {a:Shp} {pa:V2} {b:Shp} {pb:V2} {k:Nat} (h:k < b.poly.length):(aH a pa b pb)[a.poly.length+k]?=some (oQ b.poly k):=by
 unfold aH
 rw [List.getElem?_append_right (by rw [dL];omega),dL,Nat.add_sub_cancel_left,List.getElem?_append_left (by rw [dL];exact h),p7 h]
theorem xV {a:Shp} {pa:V2} {b:Shp} {pb x:V2} (h:kJ a pa b pb=[x]):(aH a pa b pb)[a.poly.length+b.poly.length]?=some x:=by
 unfold aH
 rw [List.getElem?_append_right (by rw [dL];omega),dL,Nat.add_sub_cancel_left,List.getElem?_append_right (by rw [dL];omega),dL,Nat.sub_self,h]
 rfl
theorem m6 {a:Shp} {pa:V2} {b:Shp} {pb:V2} {m:Nat} (h:(kJ a pa b pb).length=m):(aH a pa b pb).length=a.poly.length+b.poly.length+m:=by
 unfold aH
 rw [List.length_append,List.length_append,dL,dL,h];omega
theorem bj (T:HL):ap [] [T]=T:=by simp
abbrev D8 (x:V2):Array Value:=#[.agg #[vI x.x,vI x.y]]
theorem oS (c:V2) (r:Int) (l:List V2) (b cap:Nat) (pos:V2) (F:HL) (hb:(b,.rows 2 cap (jz l) 30 (0,0)) ∈ F) (hl3:3 <= l.length) (h4:l.length <= cap) (h5:l.length <= 1000000):Sp Tryz.prog 254 #[.agg #[vI c.x,vI c.y],.agg #[vI r,vS b 0 l.length cap],.agg #[vI pos.x,vI pos.y]] [] F (λ u H'=>u=.agg #[vI ((jh c ⟨r,l,some ⟨b,0,none⟩,cap⟩ pos).x),vI ((jh c ⟨r,l,some ⟨b,0,none⟩,cap⟩ pos).y)] /\ H'=[]):=by
 refine Sp.run Tryz.func254 rfl (mc hb mn) (A:=[]) (Ts:=[]) rfl λ w0=>?_
 refine ae 12 [.own 1,.own 1,.own 3,.own 3] λ n1=>aj (iq pos c  _)<|ae 9 [.own 0,.own 0,.own 3] λ n2=>aj (BM l b cap (dm pos c) (n2+0) _ (List.mem_append_right _ hb) hl3 h4 h5 (aB 0))<|ae 8 [.own 0,.own 0,.own 1,.own 1,.own 0,.own 0] λ n3=>aj (dZ (dm pos c) ((eJ (dm pos c) l (l.length - 1)).1)  _)<|ae 3 [.own 2,.own 2] λ _=>?_
 exact RN.ret [.own 2,.own 2] [] [] ⟨rfl,rfl⟩
theorem HV (pa pb:V2) (ra rb:Int) (ca cb:Nat) (Aa:Option Addr) (Ab:Option Addr) (q1 q2 q3 q4 lp:Nat) (X F:HL) (J:Nat -> HL -> Prop) (Jx:HL -> Prop) (T0:HL) (hq1:(q1,.lit [vI ra,.slice Aa 0 ca] 57 (0,0)) ∈ F) (hq2:(q2,.lit [vI rb,.slice Ab 0 cb] 57 (0,0)) ∈ F) (hq3:(q3,.lit [vI pb.x,vI pb.y] 30 (0,0)) ∈ F) (hq4:(q4,.lit [vI pa.x,vI pa.y] 30 (0,0)) ∈ F) (hY:∀ i x H Y,(aH (⟨ra,[],Aa,ca⟩:Shp) pa (⟨rb,[],Ab,cb⟩:Shp) pb)[i]?=some x -> J i H -> YL Tryz.prog lp (D8 x) H (Y++(X++F)) (λ b H'=>(b=true /\ J (i+1) H') \/ (b=false /\ Jx H'))) (hJ0:J 0 T0):Sp Tryz.prog 251 #[.func (.yield lp) #[] #[],vP q1 0,vP q2 0,vP q3 0,vP q4 0] (ap [] [T0]) (X++F) (λ _ H'=>J (aH (⟨ra,[],Aa,ca⟩:Shp) pa (⟨rb,[],Ab,cb⟩:Shp) pb).length H' \/ Jx H'):=by
 have hca:jg (⟨ra,[],Aa,ca⟩:Shp):=rfl
 have hcb:jg (⟨rb,[],Ab,cb⟩:Shp):=rfl
 have hlast:kJ (⟨ra,[],Aa,ca⟩:Shp) pa (⟨rb,[],Ab,cb⟩:Shp) pb=[gL (dm pb pa)]:=by simp only [kJ,if_pos hca,if_pos hcb]
 have hlen:(aH (⟨ra,[],Aa,ca⟩:Shp) pa (⟨rb,[],Ab,cb⟩:Shp) pb).length=([]:List V2).length+([]:List V2).length+1:=m6 (by rw [hlast];rfl)
 refine Sp.run Tryz.func251 rfl (mc (List.mem_append_right X hq1) (mc (List.mem_append_right X hq2) (mc (List.mem_append_right X hq3) (mc (List.mem_append_right X hq4) mn)))) (A:=[]) (Ts:=[T0]) rfl λ w0=>?_
 refine ae 12 [.ro 0,.ro 1] λ _=>RN.rounds 2<|ae 25 [] λ _=>RN.rounds 1<|ae 43 [] λ _=>RN.rounds 1<|ae 34 [.ro 0,.ro 0] λ _=>aj (iu ra Aa 0 ca _)<|ae 2 [.ro 1,.ro 1] λ _=>aj (iu rb Ab 0 cb _)<|ae 9 [.ro 2,.ro 2,.ro 3,.ro 3] λ _=>aj (iq pb pa  _)<|aj (iz (dm pb pa)  _) ?_
 refine RN.yield 0 (hY 0 (gL (dm pb pa)) _ _ (xV hlast) hJ0) ?_
 rintro b_ T1 (⟨rfl,hJ2⟩ | ⟨rfl,hJ2⟩)
 ·refine ae 2 [] λ _=>RN.ret [] [] [0] (v:=.tuple #[]) (H':=(ap [] [T1])) ?_
  rw [bj]
  exact .inl (by rw [hlen];exact hJ2)
 ·refine ae 2 [] λ _=>RN.ret [] [] [0] (v:=.tuple #[]) (H':=(ap [] [T1])) ?_
  rw [bj]
  exact .inr hJ2
theorem HW (pa pb:V2) (ra rb:Int) (ca cb:Nat) (Aa:Option Addr) (lb:List V2) (bb:Nat) (q1 q2 q3 q4 lp:Nat) (X F:HL) (J:Nat -> HL -> Prop) (Jx:HL -> Prop) (T0:HL) (hq1:(q1,.lit [vI ra,.slice Aa 0 ca] 57 (0,0)) ∈ F) (hq2:(q2,.lit [vI rb,vS bb 0 lb.length cb] 57 (0,0)) ∈ F) (hq3:(q3,.lit [vI pb.x,vI pb.y] 30 (0,0)) ∈ F) (hq4:(q4,.lit [vI pa.x,vI pa.y] 30 (0,0)) ∈ F) (hbb:(bb,.rows 2 cb (jz lb) 30 (0,0)) ∈ F) (h3b:3 <= lb.length) (h4b:lb.length <= cb) (h5b:lb.length <= 1000000) (hY:∀ i x H Y,(aH (⟨ra,[],Aa,ca⟩:Shp) pa (⟨rb,lb,some ⟨bb,0,none⟩,cb⟩:Shp) pb)[i]?=some x -> J i H -> YL Tryz.prog lp (D8 x) H (Y++(X++F)) (λ b H'=>(b=true /\ J (i+1) H') \/ (b=false /\ Jx H'))) (hJ0:J 0 T0):Sp Tryz.prog 251 #[.func (.yield lp) #[] #[],vP q1 0,vP q2 0,vP q3 0,vP q4 0] (ap [] [T0]) (X++F) (λ _ H'=>J (aH (⟨ra,[],Aa,ca⟩:Shp) pa (⟨rb,lb,some ⟨bb,0,none⟩,cb⟩:Shp) pb).length H' \/ Jx H'):=by
 have hca:jg (⟨ra,[],Aa,ca⟩:Shp):=rfl
 have hcb:¬ jg (⟨rb,lb,some ⟨bb,0,none⟩,cb⟩:Shp):=by intro e;simp [jg] at e;subst e;simp at h3b
 have hlast:kJ (⟨ra,[],Aa,ca⟩:Shp) pa (⟨rb,lb,some ⟨bb,0,none⟩,cb⟩:Shp) pb=[gL (jh pa (⟨rb,lb,some ⟨bb,0,none⟩,cb⟩:Shp) pb)]:=by simp only [kJ,if_pos hca,if_neg hcb]
 have hlen:(aH (⟨ra,[],Aa,ca⟩:Shp) pa (⟨rb,lb,some ⟨bb,0,none⟩,cb⟩:Shp) pb).length=([]:List V2).length+lb.length+1:=m6 (by rw [hlast];rfl)
 refine Sp.run Tryz.func251 rfl (mc (List.mem_append_right X hq1) (mc (List.mem_append_right X hq2) (mc (List.mem_append_right X hq3) (mc (List.mem_append_right X hq4) (mc (List.mem_append_right X hbb) mn))))) (A:=[]) (Ts:=[T0]) rfl λ w0=>?_
 refine ae 12 [.ro 0,.ro 1] λ _=>RN.rounds 2<|ae 25 [] λ _=>RN.rounds 1<|ae 43 [] λ _=>RN.loop (σ:=Nat × HL) (λ ⟨k,T_⟩=>⟨[(0,.func (.yield lp) #[] #[]),(1,vP q1 0),(2,vP q2 0),(3,vP q3 0),(4,vP q4 0),(7,vS bb 0 lb.length cb),(15,.agg #[.slice Aa 0 ca,vS bb 0 lb.length cb]),(16,vI 1),(19,vS bb 0 lb.length cb),(20,vI (lb.length:Int)),(21,vI (k:Int))],[],[T_],k <= lb.length /\ J (([]:List V2).length+k) T_,lb.length - k⟩) (0,T0) [] [0] (⟨Nat.zero_le _,hJ0⟩) ?_
 rintro ⟨k,T_⟩ ⟨hk_,hJ_⟩ mt2
 skip
 refine ae 6 [] λ _=>RN.em ((k:Int) < (lb.length:Int)) 22 (λ h3=>?_) λ h3=>?_
 ·refine ai 22 [.ix k,.rorow 4 k 0,.rorow 4 k 1,.own 0,.own 0,.nw] [bg ((k:Int)+1),((0+k * 2)+1)=k * 2+1 /\ k < cb,(0+k * 2)=k * 2+0 /\ k < cb,(k:Int)=((k:Nat):Int) /\ k < lb.length] λ n4=>?_
  have hm1:=Int.emod_nonneg ((k:Int)+1) (show (lb.length:Int) ≠ 0 by omega)
  have hm2:=Int.emod_lt_of_pos ((k:Int)+1) (show (0:Int) < lb.length by omega)
  refine ai 21 [.nw,.ix ((((k:Int)+1) % (lb.length:Int)).toNat),.rorow 4 ((((k:Int)+1) % (lb.length:Int)).toNat) 0,.rorow 4 ((((k:Int)+1) % (lb.length:Int)).toNat) 1,.own 0,.own 0,.own 0,.own 1,.own 1,.own 0] [((0+((((k:Int)+1) % (lb.length:Int)).toNat) * 2)+1)=((((k:Int)+1) % (lb.length:Int)).toNat) * 2+1 /\ ((((k:Int)+1) % (lb.length:Int)).toNat) < cb,(0+((((k:Int)+1) % (lb.length:Int)).toNat) * 2)=((((k:Int)+1) % (lb.length:Int)).toNat) * 2+0 /\ ((((k:Int)+1) % (lb.length:Int)).toNat) < cb,((k:Int)+1) % (lb.length:Int)=(((((k:Int)+1) % (lb.length:Int)).toNat:Nat):Int) /\ (((k:Int)+1) % (lb.length:Int)).toNat < lb.length,0 <= (k:Int)+1 /\ (0:Int) < (lb.length:Int) /\ (k:Int)+1 <= 9223372036854775807] λ n5=>aj (iz (⟨IntKind.i64.wrap (((lb.getD ((((k:Int)+1) % (lb.length:Int)).toNat) ⟨0,0⟩).y) - ((lb.getD k ⟨0,0⟩).y)),IntKind.i64.wrap (((lb.getD k ⟨0,0⟩).x) - ((lb.getD ((((k:Int)+1) % (lb.length:Int)).toNat) ⟨0,0⟩).x))⟩:V2)  _)<|RN.yield 0 (hY (([]:List V2).length+k) (oQ lb k) _ _ (D7 (a:=(⟨ra,[],Aa,ca⟩:Shp)) (by show k < lb.length;omega)) hJ_) ?_
  rintro b_ T6 (⟨rfl,hJ7⟩ | ⟨rfl,hJ7⟩)
  ·refine ai 11 [.gen,.nw] [bg ((k:Int)+1)] λ _=>?_
   refine mt2 (k+1,T6) [] [0] ?_
   try dsimp only
   exact ⟨⟨by omega,hJ7⟩,by omega⟩
  ·refine ae 4 [] λ _=>RN.ret [] [] [0] (v:=.tuple #[]) (H':=(ap [] [T6])) ?_
   rw [bj]
   exact .inr hJ7
 ·have ek1:k=lb.length:=by omega
  subst ek1
  refine ae 28 [.ro 0,.ro 0] λ _=>aj (iu ra Aa 0 ca _)<|ae 2 [.ro 1,.ro 1] λ _=>aj (iu rb (some ⟨bb,0,none⟩) lb.length cb _)<|ae 4 [] λ _=>RN.fx 51 (decide_eq_false (show ¬ ((lb.length:Int)=0) by omega))<|ae 4 [.ro 0,.ro 0] λ _=>aj (iu ra Aa 0 ca _)<|ae 9 [.ro 3,.ro 3,.ro 1,.ro 1,.ro 2,.ro 2] λ _=>aj (oS pa rb lb bb cb pb _ (List.mem_append_right _ (List.mem_append_right X hbb)) h3b h4b h5b)<|aj (iz (jh pa (⟨rb,lb,some ⟨bb,0,none⟩,cb⟩:Shp) pb)  _)<|RN.yield 0 (hY (([]:List V2).length+lb.length) (gL (jh pa (⟨rb,lb,some ⟨bb,0,none⟩,cb⟩:Shp) pb)) _ _ (xV hlast) hJ_) ?_
  rintro b_ T8 (⟨rfl,hJ9⟩ | ⟨rfl,hJ9⟩)
  ·refine ae 2 [] λ _=>RN.ret [] [] [0] (v:=.tuple #[]) (H':=(ap [] [T8])) ?_
   rw [bj]
   exact .inl (by rw [hlen];exact hJ9)
  ·refine ae 2 [] λ _=>RN.ret [] [] [0] (v:=.tuple #[]) (H':=(ap [] [T8])) ?_
   rw [bj]
   exact .inr hJ9
theorem HX (pa pb:V2) (ra rb:Int) (ca cb:Nat) (la:List V2) (ba:Nat) (Ab:Option Addr) (q1 q2 q3 q4 lp:Nat) (X F:HL) (J:Nat -> HL -> Prop) (Jx:HL -> Prop) (T0:HL) (hq1:(q1,.lit [vI ra,vS ba 0 la.length ca] 57 (0,0)) ∈ F) (hq2:(q2,.lit [vI rb,.slice Ab 0 cb] 57 (0,0)) ∈ F) (hq3:(q3,.lit [vI pb.x,vI pb.y] 30 (0,0)) ∈ F) (hq4:(q4,.lit [vI pa.x,vI pa.y] 30 (0,0)) ∈ F) (hba:(ba,.rows 2 ca (jz la) 30 (0,0)) ∈ F) (h3a:3 <= la.length) (h4a:la.length <= ca) (h5a:la.length <= 1000000) (hY:∀ i x H Y,(aH (⟨ra,la,some ⟨ba,0,none⟩,ca⟩:Shp) pa (⟨rb,[],Ab,cb⟩:Shp) pb)[i]?=some x -> J i H -> YL Tryz.prog lp (D8 x) H (Y++(X++F)) (λ b H'=>(b=true /\ J (i+1) H') \/ (b=false /\ Jx H'))) (hJ0:J 0 T0):Sp Tryz.prog 251 #[.func (.yield lp) #[] #[],vP q1 0,vP q2 0,vP q3 0,vP q4 0] (ap [] [T0]) (X++F) (λ _ H'=>J (aH (⟨ra,la,some ⟨ba,0,none⟩,ca⟩:Shp) pa (⟨rb,[],Ab,cb⟩:Shp) pb).length H' \/ Jx H'):=by
 have hca:¬ jg (⟨ra,la,some ⟨ba,0,none⟩,ca⟩:Shp):=by intro e;simp [jg] at e;subst e;simp at h3a
 have hcb:jg (⟨rb,[],Ab,cb⟩:Shp):=rfl
 have hlast:kJ (⟨ra,la,some ⟨ba,0,none⟩,ca⟩:Shp) pa (⟨rb,[],Ab,cb⟩:Shp) pb=[gL (jh pb (⟨ra,la,some ⟨ba,0,none⟩,ca⟩:Shp) pa)]:=by simp only [kJ,if_neg hca,if_pos hcb]
 have hlen:(aH (⟨ra,la,some ⟨ba,0,none⟩,ca⟩:Shp) pa (⟨rb,[],Ab,cb⟩:Shp) pb).length=la.length+([]:List V2).length+1:=m6 (by rw [hlast];rfl)
 refine Sp.run Tryz.func251 rfl (mc (List.mem_append_right X hq1) (mc (List.mem_append_right X hq2) (mc (List.mem_append_right X hq3) (mc (List.mem_append_right X hq4) (mc (List.mem_append_right X hba) mn))))) (A:=[]) (Ts:=[T0]) rfl λ w0=>?_
 refine ae 12 [.ro 0,.ro 1] λ _=>RN.rounds 2<|ae 25 [] λ _=>RN.loop (σ:=Nat × HL) (λ ⟨k,T_⟩=>⟨[(0,.func (.yield lp) #[] #[]),(1,vP q1 0),(2,vP q2 0),(3,vP q3 0),(4,vP q4 0),(7,vS ba 0 la.length ca),(15,.agg #[vS ba 0 la.length ca,.slice Ab 0 cb]),(16,vI 0),(19,vS ba 0 la.length ca),(20,vI (la.length:Int)),(21,vI (k:Int))],[],[T_],k <= la.length /\ J (k) T_,la.length - k⟩) (0,T0) [] [0] (⟨Nat.zero_le _,hJ0⟩) ?_
 rintro ⟨k,T_⟩ ⟨hk_,hJ_⟩ mt2
 skip
 refine ae 6 [] λ _=>RN.em ((k:Int) < (la.length:Int)) 22 (λ h3=>?_) λ h3=>?_
 ·refine ai 22 [.ix k,.rorow 4 k 0,.rorow 4 k 1,.own 0,.own 0,.nw] [bg ((k:Int)+1),((0+k * 2)+1)=k * 2+1 /\ k < ca,(0+k * 2)=k * 2+0 /\ k < ca,(k:Int)=((k:Nat):Int) /\ k < la.length] λ n4=>?_
  have hm1:=Int.emod_nonneg ((k:Int)+1) (show (la.length:Int) ≠ 0 by omega)
  have hm2:=Int.emod_lt_of_pos ((k:Int)+1) (show (0:Int) < la.length by omega)
  refine ai 21 [.nw,.ix ((((k:Int)+1) % (la.length:Int)).toNat),.rorow 4 ((((k:Int)+1) % (la.length:Int)).toNat) 0,.rorow 4 ((((k:Int)+1) % (la.length:Int)).toNat) 1,.own 0,.own 0,.own 0,.own 1,.own 1,.own 0] [((0+((((k:Int)+1) % (la.length:Int)).toNat) * 2)+1)=((((k:Int)+1) % (la.length:Int)).toNat) * 2+1 /\ ((((k:Int)+1) % (la.length:Int)).toNat) < ca,(0+((((k:Int)+1) % (la.length:Int)).toNat) * 2)=((((k:Int)+1) % (la.length:Int)).toNat) * 2+0 /\ ((((k:Int)+1) % (la.length:Int)).toNat) < ca,((k:Int)+1) % (la.length:Int)=(((((k:Int)+1) % (la.length:Int)).toNat:Nat):Int) /\ (((k:Int)+1) % (la.length:Int)).toNat < la.length,0 <= (k:Int)+1 /\ (0:Int) < (la.length:Int) /\ (k:Int)+1 <= 9223372036854775807] λ n5=>aj (iz (⟨IntKind.i64.wrap (((la.getD ((((k:Int)+1) % (la.length:Int)).toNat) ⟨0,0⟩).y) - ((la.getD k ⟨0,0⟩).y)),IntKind.i64.wrap (((la.getD k ⟨0,0⟩).x) - ((la.getD ((((k:Int)+1) % (la.length:Int)).toNat) ⟨0,0⟩).x))⟩:V2)  _)<|RN.yield 0 (hY k (oQ la k) _ _ (D6 (by show k < la.length;omega)) hJ_) ?_
  rintro b_ T6 (⟨rfl,hJ7⟩ | ⟨rfl,hJ7⟩)
  ·refine ai 11 [.gen,.nw] [bg ((k:Int)+1)] λ _=>?_
   refine mt2 (k+1,T6) [] [0] ?_
   try dsimp only
   exact ⟨⟨by omega,hJ7⟩,by omega⟩
  ·refine ae 4 [] λ _=>RN.ret [] [] [0] (v:=.tuple #[]) (H':=(ap [] [T6])) ?_
   rw [bj]
   exact .inr hJ7
 ·have ek0:k=la.length:=by omega
  subst ek0
  refine ae 37 [] λ _=>RN.rounds 1<|ae 34 [.ro 0,.ro 0] λ _=>aj (iu ra (some ⟨ba,0,none⟩) la.length ca _)<|ae 1 [] λ _=>RN.fx 54 (decide_eq_false (show ¬ ((la.length:Int)=0) by omega))<|ae 10 [.ro 0,.ro 0] λ _=>aj (iu ra (some ⟨ba,0,none⟩) la.length ca _)<|ae 3 [] λ _=>RN.fx 64 (decide_eq_false (show ¬ ((la.length:Int)=0) by omega))<|ae 4 [.ro 1,.ro 1] λ _=>aj (iu rb Ab 0 cb _)<|ae 9 [.ro 2,.ro 2,.ro 0,.ro 0,.ro 3,.ro 3] λ _=>?_
  refine aj (oS pb ra la ba ca pa _ (List.mem_append_right _ (List.mem_append_right X hba)) h3a h4a h5a)<|aj (iz (jh pb (⟨ra,la,some ⟨ba,0,none⟩,ca⟩:Shp) pa)  _)<|RN.yield 0 (hY la.length (gL (jh pb (⟨ra,la,some ⟨ba,0,none⟩,ca⟩:Shp) pa)) _ _ (xV hlast) hJ_) ?_
  rintro b_ T8 (⟨rfl,hJ9⟩ | ⟨rfl,hJ9⟩)
  ·refine ae 2 [] λ _=>RN.ret [] [] [0] (v:=.tuple #[]) (H':=(ap [] [T8])) ?_
   rw [bj]
   exact .inl (by rw [hlen];exact hJ9)
  ·refine ae 2 [] λ _=>RN.ret [] [] [0] (v:=.tuple #[]) (H':=(ap [] [T8])) ?_
   rw [bj]
   exact .inr hJ9
theorem HY (pa pb:V2) (ra rb:Int) (ca cb:Nat) (la:List V2) (ba:Nat) (lb:List V2) (bb:Nat) (q1 q2 q3 q4 lp:Nat) (X F:HL) (J:Nat -> HL -> Prop) (Jx:HL -> Prop) (T0:HL) (hq1:(q1,.lit [vI ra,vS ba 0 la.length ca] 57 (0,0)) ∈ F) (hq2:(q2,.lit [vI rb,vS bb 0 lb.length cb] 57 (0,0)) ∈ F) (hq3:(q3,.lit [vI pb.x,vI pb.y] 30 (0,0)) ∈ F) (hq4:(q4,.lit [vI pa.x,vI pa.y] 30 (0,0)) ∈ F) (hba:(ba,.rows 2 ca (jz la) 30 (0,0)) ∈ F) (h3a:3 <= la.length) (h4a:la.length <= ca) (h5a:la.length <= 1000000) (hbb:(bb,.rows 2 cb (jz lb) 30 (0,0)) ∈ F) (h3b:3 <= lb.length) (h4b:lb.length <= cb) (h5b:lb.length <= 1000000) (hY:∀ i x H Y,(aH (⟨ra,la,some ⟨ba,0,none⟩,ca⟩:Shp) pa (⟨rb,lb,some ⟨bb,0,none⟩,cb⟩:Shp) pb)[i]?=some x -> J i H -> YL Tryz.prog lp (D8 x) H (Y++(X++F)) (λ b H'=>(b=true /\ J (i+1) H') \/ (b=false /\ Jx H'))) (hJ0:J 0 T0):Sp Tryz.prog 251 #[.func (.yield lp) #[] #[],vP q1 0,vP q2 0,vP q3 0,vP q4 0] (ap [] [T0]) (X++F) (λ _ H'=>J (aH (⟨ra,la,some ⟨ba,0,none⟩,ca⟩:Shp) pa (⟨rb,lb,some ⟨bb,0,none⟩,cb⟩:Shp) pb).length H' \/ Jx H'):=by
 have hca:¬ jg (⟨ra,la,some ⟨ba,0,none⟩,ca⟩:Shp):=by intro e;simp [jg] at e;subst e;simp at h3a
 have hcb:¬ jg (⟨rb,lb,some ⟨bb,0,none⟩,cb⟩:Shp):=by intro e;simp [jg] at e;subst e;simp at h3b
 have hlast:kJ (⟨ra,la,some ⟨ba,0,none⟩,ca⟩:Shp) pa (⟨rb,lb,some ⟨bb,0,none⟩,cb⟩:Shp) pb=[]:=by simp only [kJ,if_neg hca,if_neg hcb]
 have hlen:(aH (⟨ra,la,some ⟨ba,0,none⟩,ca⟩:Shp) pa (⟨rb,lb,some ⟨bb,0,none⟩,cb⟩:Shp) pb).length=la.length+lb.length+0:=m6 (by rw [hlast];rfl)
 refine Sp.run Tryz.func251 rfl (mc (List.mem_append_right X hq1) (mc (List.mem_append_right X hq2) (mc (List.mem_append_right X hq3) (mc (List.mem_append_right X hq4) (mc (List.mem_append_right X hba) (mc (List.mem_append_right X hbb) mn)))))) (A:=[]) (Ts:=[T0]) rfl λ w0=>?_
 refine ae 12 [.ro 0,.ro 1] λ _=>RN.rounds 2<|ae 25 [] λ _=>RN.loop (σ:=Nat × HL) (λ ⟨k,T_⟩=>⟨[(0,.func (.yield lp) #[] #[]),(1,vP q1 0),(2,vP q2 0),(3,vP q3 0),(4,vP q4 0),(7,vS ba 0 la.length ca),(15,.agg #[vS ba 0 la.length ca,vS bb 0 lb.length cb]),(16,vI 0),(19,vS ba 0 la.length ca),(20,vI (la.length:Int)),(21,vI (k:Int))],[],[T_],k <= la.length /\ J (k) T_,la.length - k⟩) (0,T0) [] [0] (⟨Nat.zero_le _,hJ0⟩) ?_
 rintro ⟨k,T_⟩ ⟨hk_,hJ_⟩ mt2
 skip
 refine ae 6 [] λ _=>RN.em ((k:Int) < (la.length:Int)) 22 (λ h3=>?_) λ h3=>?_
 ·refine ai 22 [.ix k,.rorow 4 k 0,.rorow 4 k 1,.own 0,.own 0,.nw] [bg ((k:Int)+1),((0+k * 2)+1)=k * 2+1 /\ k < ca,(0+k * 2)=k * 2+0 /\ k < ca,(k:Int)=((k:Nat):Int) /\ k < la.length] λ n4=>?_
  have hm1:=Int.emod_nonneg ((k:Int)+1) (show (la.length:Int) ≠ 0 by omega)
  have hm2:=Int.emod_lt_of_pos ((k:Int)+1) (show (0:Int) < la.length by omega)
  refine ai 21 [.nw,.ix ((((k:Int)+1) % (la.length:Int)).toNat),.rorow 4 ((((k:Int)+1) % (la.length:Int)).toNat) 0,.rorow 4 ((((k:Int)+1) % (la.length:Int)).toNat) 1,.own 0,.own 0,.own 0,.own 1,.own 1,.own 0] [((0+((((k:Int)+1) % (la.length:Int)).toNat) * 2)+1)=((((k:Int)+1) % (la.length:Int)).toNat) * 2+1 /\ ((((k:Int)+1) % (la.length:Int)).toNat) < ca,(0+((((k:Int)+1) % (la.length:Int)).toNat) * 2)=((((k:Int)+1) % (la.length:Int)).toNat) * 2+0 /\ ((((k:Int)+1) % (la.length:Int)).toNat) < ca,((k:Int)+1) % (la.length:Int)=(((((k:Int)+1) % (la.length:Int)).toNat:Nat):Int) /\ (((k:Int)+1) % (la.length:Int)).toNat < la.length,0 <= (k:Int)+1 /\ (0:Int) < (la.length:Int) /\ (k:Int)+1 <= 9223372036854775807] λ n5=>aj (iz (⟨IntKind.i64.wrap (((la.getD ((((k:Int)+1) % (la.length:Int)).toNat) ⟨0,0⟩).y) - ((la.getD k ⟨0,0⟩).y)),IntKind.i64.wrap (((la.getD k ⟨0,0⟩).x) - ((la.getD ((((k:Int)+1) % (la.length:Int)).toNat) ⟨0,0⟩).x))⟩:V2)  _)<|RN.yield 0 (hY k (oQ la k) _ _ (D6 (by show k < la.length;omega)) hJ_) ?_
  rintro b_ T6 (⟨rfl,hJ7⟩ | ⟨rfl,hJ7⟩)
  ·refine ai 11 [.gen,.nw] [bg ((k:Int)+1)] λ _=>?_
   refine mt2 (k+1,T6) [] [0] ?_
   try dsimp only
   exact ⟨⟨by omega,hJ7⟩,by omega⟩
  ·refine ae 4 [] λ _=>RN.ret [] [] [0] (v:=.tuple #[]) (H':=(ap [] [T6])) ?_
   rw [bj]
   exact .inr hJ7
 ·have ek0:k=la.length:=by omega
  subst ek0
  refine ae 37 [] λ _=>RN.loop (σ:=Nat × HL) (λ ⟨k,T_⟩=>⟨[(0,.func (.yield lp) #[] #[]),(1,vP q1 0),(2,vP q2 0),(3,vP q3 0),(4,vP q4 0),(7,vS bb 0 lb.length cb),(15,.agg #[vS ba 0 la.length ca,vS bb 0 lb.length cb]),(16,vI 1),(19,vS bb 0 lb.length cb),(20,vI (lb.length:Int)),(21,vI (k:Int))],[],[T_],k <= lb.length /\ J (la.length+k) T_,lb.length - k⟩) (0,T_) [] [0] (⟨Nat.zero_le _,hJ_⟩) ?_
  rintro ⟨k,T_⟩ ⟨hk_,hJ_⟩ mt9
  skip
  refine ae 6 [] λ _=>RN.em ((k:Int) < (lb.length:Int)) 22 (λ h10=>?_) λ h10=>?_
  ·refine ai 22 [.ix k,.rorow 5 k 0,.rorow 5 k 1,.own 0,.own 0,.nw] [bg ((k:Int)+1),((0+k * 2)+1)=k * 2+1 /\ k < cb,(0+k * 2)=k * 2+0 /\ k < cb,(k:Int)=((k:Nat):Int) /\ k < lb.length] λ n11=>?_
   have hm1:=Int.emod_nonneg ((k:Int)+1) (show (lb.length:Int) ≠ 0 by omega)
   have hm2:=Int.emod_lt_of_pos ((k:Int)+1) (show (0:Int) < lb.length by omega)
   refine ai 21 [.nw,.ix ((((k:Int)+1) % (lb.length:Int)).toNat),.rorow 5 ((((k:Int)+1) % (lb.length:Int)).toNat) 0,.rorow 5 ((((k:Int)+1) % (lb.length:Int)).toNat) 1,.own 0,.own 0,.own 0,.own 1,.own 1,.own 0] [((0+((((k:Int)+1) % (lb.length:Int)).toNat) * 2)+1)=((((k:Int)+1) % (lb.length:Int)).toNat) * 2+1 /\ ((((k:Int)+1) % (lb.length:Int)).toNat) < cb,(0+((((k:Int)+1) % (lb.length:Int)).toNat) * 2)=((((k:Int)+1) % (lb.length:Int)).toNat) * 2+0 /\ ((((k:Int)+1) % (lb.length:Int)).toNat) < cb,((k:Int)+1) % (lb.length:Int)=(((((k:Int)+1) % (lb.length:Int)).toNat:Nat):Int) /\ (((k:Int)+1) % (lb.length:Int)).toNat < lb.length,0 <= (k:Int)+1 /\ (0:Int) < (lb.length:Int) /\ (k:Int)+1 <= 9223372036854775807] λ n12=>aj (iz (⟨IntKind.i64.wrap (((lb.getD ((((k:Int)+1) % (lb.length:Int)).toNat) ⟨0,0⟩).y) - ((lb.getD k ⟨0,0⟩).y)),IntKind.i64.wrap (((lb.getD k ⟨0,0⟩).x) - ((lb.getD ((((k:Int)+1) % (lb.length:Int)).toNat) ⟨0,0⟩).x))⟩:V2)  _)<|RN.yield 0 (hY (la.length+k) (oQ lb k) _ _ (D7 (a:=(⟨ra,la,some ⟨ba,0,none⟩,ca⟩:Shp)) (by show k < lb.length;omega)) hJ_) ?_
   rintro b_ T13 (⟨rfl,hJ14⟩ | ⟨rfl,hJ14⟩)
   ·refine ai 11 [.gen,.nw] [bg ((k:Int)+1)] λ _=>?_
    refine mt9 (k+1,T13) [] [0] ?_
    try dsimp only
    exact ⟨⟨by omega,hJ14⟩,by omega⟩
   ·refine ae 4 [] λ _=>RN.ret [] [] [0] (v:=.tuple #[]) (H':=(ap [] [T13])) ?_
    rw [bj]
    exact .inr hJ14
  ·have ek1:k=lb.length:=by omega
   subst ek1
   refine ae 28 [.ro 0,.ro 0] λ _=>aj (iu ra (some ⟨ba,0,none⟩) la.length ca _)<|ae 1 [] λ _=>RN.fx 54 (decide_eq_false (show ¬ ((la.length:Int)=0) by omega))<|ae 10 [.ro 0,.ro 0] λ _=>aj (iu ra (some ⟨ba,0,none⟩) la.length ca _)<|ae 3 [] λ _=>RN.fx 64 (decide_eq_false (show ¬ ((la.length:Int)=0) by omega))<|ae 4 [.ro 1,.ro 1] λ _=>aj (iu rb (some ⟨bb,0,none⟩) lb.length cb _)<|ae 3 [] λ _=>RN.fx 74 (decide_eq_false (show ¬ ((lb.length:Int)=0) by omega))<|ae 3 [] λ _=>?_
   refine RN.ret [] [] [0] (v:=.tuple #[]) (H':=(ap [] [T_])) ?_
   rw [bj]
   exact .inl (by rw [hlen];exact hJ_)
end Go.Proofs.YtobflkidpfkcaaaGreatDoor
