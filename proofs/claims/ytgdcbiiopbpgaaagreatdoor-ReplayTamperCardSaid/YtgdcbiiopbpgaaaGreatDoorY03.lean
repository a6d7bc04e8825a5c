import Derived.Test.YtgdcbiiopbpgaaaGreatDoorY02
set_option maxHeartbeats 4000000
set_option maxRecDepth 100000
set_option linter.unusedSimpArgs false
set_option linter.unusedVariables false
namespace Go.Proofs.YtgdcbiiopbpgaaaGreatDoor
open IntKind
open Go.RowKit
def fJ(t:Stp):Bool:=if bg (t.i+1)<t.S.nb then t.ended else true
def ge(t:Stp)(M:MemS):MemS:=if af t.S t.i >= 0 then M.set (af t.S t.i+7) (if M.get (af t.S t.i+2)=0 then if M.get (af t.S t.i+3)=0 then (if 1000<bg (M.get (af t.S t.i+7)+1) then 1000 else bg (M.get (af t.S t.i+7)+1)) else 0 else 0) else M
def cK(M:MemS):Nat -> MemS
 | 0=>M
 | n+1=>(cK M n).set ((n+1:Nat):Int) 0
def hO(t:Stp)(M:MemS):MemS:=if bg (t.i+1)<t.S.nb then M.set 2 (bg (t.i+1)) else cK (M.set 0 (bg (M.get 0+1))) 10
def dG(t:Stp)(M:MemS):MemS:=hO t (ge t M)
def b6(t:Stp)(M:MemS):V2:=al (if ah t.S t.i >= 0 then aD (aD ⟨(ao t.S M t.i).vx,(ao t.S M t.i).vy⟩ t.S.g) ⟨bg (M.get (ah t.S t.i+0)*t.S.push),bg (M.get (ah t.S t.i+1)*t.S.push)⟩ else aD ⟨(ao t.S M t.i).vx,(ao t.S M t.i).vy⟩ t.S.g) (bg (1024-t.S.drag))
def bJ(t:Stp)(M:MemS):MemS:=if af t.S t.i >= 0 then M.set (af t.S t.i+6) 0 else M
def bO(t:Stp)(M:MemS):MemS:=if movP t.S t.i then (M.set (af t.S t.i+2) (aF (b6 t M).x (-16384) 16384)).set (af t.S t.i+3) (aF (b6 t M).y (-16384) 16384) else M
def b7(t:Stp)(M:MemS):MemS:=if bg (t.i+1)<t.S.nb then M.set 2 (bg (t.i+1)) else (aL t 4 1 M).set 4 0
def aR(t:Stp)(M:MemS):MemS:=b7 t (bO t (bJ t M))
def lZ(M:MemS):Int:=if bg (M.get 5+128)<1024 then bg (M.get 5+128) else 1024
def gA(t:Stp)(M:MemS):V2:=aD ⟨(ao t.S M t.i).px,(ao t.S M t.i).py⟩ (eL ⟨(ao t.S M t.i).vx,(ao t.S M t.i).vy⟩ (lZ M) 1024)
def dk(t:Stp)(M:MemS):MemS:=ep t (af t.S t.i+1) (af t.S t.i+3) (gA t M).y t.S.box.y0 t.S.box.y1 (ep t (af t.S t.i+0) (af t.S t.i+2) (gA t M).x t.S.box.x0 t.S.box.x1 M)
theorem CT(t:Stp)  (tb mb:Nat) (M:MemS) (k:Nat) (T F:HL) (hM:MemH mb M (k+8) T) (hS:SetIn F t.S) :Sp Tryz.prog 151 #[vP tb 0] (ap [(tb,.lit (Stp.l t mb) 275 (0,0))] [T]) F (λ u H'=>∃x,H'=ap [(tb,.lit (Stp.l t mb) 275 (0,0))] [x] /\ (MemH mb (aR t M) k x)):=by
 have hp:=hS.pl
 have hn:=hS.nb
 have hr:=hS.room
 refine Sp.run Tryz.func151 rfl (mc hS.blk mn) (A:=[(tb,.lit (Stp.l t mb) 275 (0,0))]) (Ts:=[T]) rfl λ w0=>?_
 refine ae 2 [] λ _=>RN.draw [] []<|ag [] [0,4,1,5,2,6,3,7] (ow 0 17)<|RD.cp [] 8 (λ X_=>(cO t.S t.i _ hS.toSetN)) ?_
 have UI:=cN hS.toSetN t.i
 refine ag [] [9] []<|RD.fin<|ae 7 [] λ _=>RN.em (af t.S t.i >= 0) 19 (λ h2=>?_) λ h2=>?_
 ·refine ai 8 [.own 0,.nw] [aU ((af t.S t.i)+6)] λ _=>RN.ct [] [0] (aj ((af t.S t.i)+6) 0 hM) ?_
  rintro _ T3 L_
  refine ae 10 [.own 0] λ _=>RN.cp (js t t.i tb mb _ (az 0) hS.up)<|ae 2 [] λ _=>RN.em (movP t.S t.i) 32 (λ h5=>?_) λ h5=>?_
  ·have:=movP.has h5
   refine ae 8 [.own 0] λ _=>RN.cp (fE t t.i tb mb (M.set ((af t.S t.i)+6) 0) _ T3 _ (az 0) hS.up L_ (ar 0) (movP.has h5))<|ae 5 (ow 0 5) λ n6=>RN.draw [9] []<|ag [] [0,2,1,3,4,5,6] [.own 0,.own 0,.own 1,.own 1]<|RD.cp [] 7 (λ X_=>(eo (⟨(ao t.S (M.set ((af t.S t.i)+6) 0) t.i).vx,(ao t.S (M.set ((af t.S t.i)+6) 0) t.i).vy⟩:V2) t.S.g  _))<|RD.one 8 (RDO.ev [] [] λ n7=>?_)
   refine RD.one 9 (RDO.ev [] [.own 0,.own 0] λ _=>?_)
   refine RD.fin<|ae 3 [] λ _=>RN.draw [] []<|ag [] [0,4,1,5,2,6,3,7] (ow 2 17)<|RD.cp [] 8 (λ X_=>(gG t.S t.i _ hS.toSetN)) ?_
   have hb8:=gF hS.toSetN t.i
   refine ag [] [9] []<|RD.fin<|ae 7 [] λ _=>RN.em (ah t.S t.i >= 0) 57 (λ h9=>?_) λ h9=>?_
   ·refine ae 2 [] λ _=>RN.draw [] []<|aG [] [0,4,7,11,1,5,8,12,2,9,3,10] [.nw,.nw,.own 2,.own 2] [aU ((ah t.S t.i)+1),aU ((ah t.S t.i)+0)]<|RD.cp [] 6 (λ X_=>(aw ((ah t.S t.i)+0) L_ (aS 0)))<|RD.cp [] 13 (λ X_=>(aw ((ah t.S t.i)+1) L_ (aS 0)))<|ag [] [14,15] []<|RD.fin<|ae 1 [] λ _=>RN.draw [17] []<|ag [] [0,1,2,8,9,3,10,4,11,5,12,6,13,7,14,15] [.own 0,.own 0,.own 2,.own 2]<|RD.cp [] 16 (λ X_=>(eo (aD (⟨(ao t.S (M.set ((af t.S t.i)+6) 0) t.i).vx,(ao t.S (M.set ((af t.S t.i)+6) 0) t.i).vy⟩:V2) t.S.g) (⟨i64.wrap (((M.set ((af t.S t.i)+6) 0).get ((ah t.S t.i)+0))*t.S.push),i64.wrap (((M.set ((af t.S t.i)+6) 0).get ((ah t.S t.i)+1))*t.S.push)⟩:V2)  _))<|RD.one 17 (RDO.ev [] [.own 0,.own 0] λ _=>?_)
    refine RD.fin<|ae 2 [] λ _=>RN.draw [8] []<|ag [] [0,1,2,3,4,5,6] [.own 0,.own 0,.own 2]<|RD.cp [] 7 (λ X_=>(eV (aD (aD (⟨(ao t.S (M.set ((af t.S t.i)+6) 0) t.i).vx,(ao t.S (M.set ((af t.S t.i)+6) 0) t.i).vy⟩:V2) t.S.g) (⟨i64.wrap (((M.set ((af t.S t.i)+6) 0).get ((ah t.S t.i)+0))*t.S.push),i64.wrap (((M.set ((af t.S t.i)+6) 0).get ((ah t.S t.i)+1))*t.S.push)⟩:V2)) (i64.wrap (1024-t.S.drag))  _))<|RD.one 8 (RDO.ev [] [.own 0,.own 0] λ _=>?_)
    refine RD.fin<|ae 2 [] λ _=>RN.draw [] []<|ag [] [0,4,1,5,2,6,3,7] (ow 2 17)<|RD.cp [] 8 (λ X_=>(cO t.S t.i _ hS.toSetN)) ?_
    have hb10:=cN hS.toSetN t.i
    refine ag [] [9] []<|RD.fin<|ae 2 [] λ _=>RN.draw [11] []<|aG [] [0,4,6,1,5,7,2,3,9,10] [.nw,.own 0,.own 2] [aU ((af t.S t.i)+2)]<|RD.cp [] 8 (λ X_=>(cE ((al (aD (aD (⟨(ao t.S (M.set ((af t.S t.i)+6) 0) t.i).vx,(ao t.S (M.set ((af t.S t.i)+6) 0) t.i).vy⟩:V2) t.S.g) (⟨i64.wrap (((M.set ((af t.S t.i)+6) 0).get ((ah t.S t.i)+0))*t.S.push),i64.wrap (((M.set ((af t.S t.i)+6) 0).get ((ah t.S t.i)+1))*t.S.push)⟩:V2)) (i64.wrap (1024-t.S.drag))).x) (-16384) 16384  _))<|RD.one 11 (RDO.ct [] [] [0] (aj ((af t.S t.i)+2) (aF ((al (aD (aD (⟨(ao t.S (M.set ((af t.S t.i)+6) 0) t.i).vx,(ao t.S (M.set ((af t.S t.i)+6) 0) t.i).vy⟩:V2) t.S.g) (⟨i64.wrap (((M.set ((af t.S t.i)+6) 0).get ((ah t.S t.i)+0))*t.S.push),i64.wrap (((M.set ((af t.S t.i)+6) 0).get ((ah t.S t.i)+1))*t.S.push)⟩:V2)) (i64.wrap (1024-t.S.drag))).x) (-16384) 16384) L_) ?_)
    rintro _ Of Q6
    refine RD.fin<|ae 1 [] λ _=>RN.draw [11] []<|aG [] [0,4,6,1,5,7,2,3,9,10] [.nw,.own 0,.own 2] [aU ((af t.S t.i)+3)]<|RD.cp [] 8 (λ X_=>(cE ((al (aD (aD (⟨(ao t.S (M.set ((af t.S t.i)+6) 0) t.i).vx,(ao t.S (M.set ((af t.S t.i)+6) 0) t.i).vy⟩:V2) t.S.g) (⟨i64.wrap (((M.set ((af t.S t.i)+6) 0).get ((ah t.S t.i)+0))*t.S.push),i64.wrap (((M.set ((af t.S t.i)+6) 0).get ((ah t.S t.i)+1))*t.S.push)⟩:V2)) (i64.wrap (1024-t.S.drag))).y) (-16384) 16384  _))<|RD.one 11 (RDO.ct [] [] [0] (aj ((af t.S t.i)+3) (aF ((al (aD (aD (⟨(ao t.S (M.set ((af t.S t.i)+6) 0) t.i).vx,(ao t.S (M.set ((af t.S t.i)+6) 0) t.i).vy⟩:V2) t.S.g) (⟨i64.wrap (((M.set ((af t.S t.i)+6) 0).get ((ah t.S t.i)+0))*t.S.push),i64.wrap (((M.set ((af t.S t.i)+6) 0).get ((ah t.S t.i)+1))*t.S.push)⟩:V2)) (i64.wrap (1024-t.S.drag))).y) (-16384) 16384) Q6) ?_)
    rintro _ To So
    refine RD.fin<|ae 3 [] λ _=>RN.draw [] []<|ag [] [0,5,1,6,2,7,3,8,4,9,10,11] [.own 2,.own 2]<|RD.fin<|ae 1 [] λ _=>RN.em (i64.wrap (t.i+1)<(t.S.nb:Int)) 141 (λ Wo=>?_) λ Wo=>?_
    ·refine ae 2 [] λ _=>RN.draw [11] []<|ag [] [0,4,1,5,2,6,3,7,8,9,10] [.own 2,.own 2]<|RD.one 11 (RDO.ct [] [] [0] (aj 2 (i64.wrap (t.i+1)) So) ?_)
     rintro _ TF Ub
     refine RD.fin<|ae 1 [] λ _=>RN.ret [] [2] [0] (v:=.tuple #[]) (H':=(ap [(tb,.lit (Stp.l t mb) 275 (0,0))] [TF])) ?_
     refine⟨TF,rfl,?_⟩
     have e:(aR t M)=((((M.set ((af t.S t.i)+6) 0).set ((af t.S t.i)+2) (aF ((al (aD (aD (⟨(ao t.S (M.set ((af t.S t.i)+6) 0) t.i).vx,(ao t.S (M.set ((af t.S t.i)+6) 0) t.i).vy⟩:V2) t.S.g) (⟨i64.wrap (((M.set ((af t.S t.i)+6) 0).get ((ah t.S t.i)+0))*t.S.push),i64.wrap (((M.set ((af t.S t.i)+6) 0).get ((ah t.S t.i)+1))*t.S.push)⟩:V2)) (i64.wrap (1024-t.S.drag))).x) (-16384) 16384)).set ((af t.S t.i)+3) (aF ((al (aD (aD (⟨(ao t.S (M.set ((af t.S t.i)+6) 0) t.i).vx,(ao t.S (M.set ((af t.S t.i)+6) 0) t.i).vy⟩:V2) t.S.g) (⟨i64.wrap (((M.set ((af t.S t.i)+6) 0).get ((ah t.S t.i)+0))*t.S.push),i64.wrap (((M.set ((af t.S t.i)+6) 0).get ((ah t.S t.i)+1))*t.S.push)⟩:V2)) (i64.wrap (1024-t.S.drag))).y) (-16384) 16384)).set 2 (i64.wrap (t.i+1))):=by
      first|(simp only[aR,bJ,bO,b7,b6,if_pos h2,if_pos h5,if_pos h9,if_pos Wo];try rfl;done)|rfl
     rw[e]
     exact Ub.weak (by omega)
    ·refine ae 6 [] λ _=>RN.ct [2] [0] (bL t 4 1 tb mb (((M.set ((af t.S t.i)+6) 0).set ((af t.S t.i)+2) (aF ((al (aD (aD (⟨(ao t.S (M.set ((af t.S t.i)+6) 0) t.i).vx,(ao t.S (M.set ((af t.S t.i)+6) 0) t.i).vy⟩:V2) t.S.g) (⟨i64.wrap (((M.set ((af t.S t.i)+6) 0).get ((ah t.S t.i)+0))*t.S.push),i64.wrap (((M.set ((af t.S t.i)+6) 0).get ((ah t.S t.i)+1))*t.S.push)⟩:V2)) (i64.wrap (1024-t.S.drag))).x) (-16384) 16384)).set ((af t.S t.i)+3) (aF ((al (aD (aD (⟨(ao t.S (M.set ((af t.S t.i)+6) 0) t.i).vx,(ao t.S (M.set ((af t.S t.i)+6) 0) t.i).vy⟩:V2) t.S.g) (⟨i64.wrap (((M.set ((af t.S t.i)+6) 0).get ((ah t.S t.i)+0))*t.S.push),i64.wrap (((M.set ((af t.S t.i)+6) 0).get ((ah t.S t.i)+1))*t.S.push)⟩:V2)) (i64.wrap (1024-t.S.drag))).y) (-16384) 16384)) (k+2) To _ So hS.up ) ?_
     rintro _ ZI VX
     refine ae 7 [.own 0] λ _=>RN.ct [] [0] (aj 4 0 VX) ?_
     rintro _ Uy VV
     refine ae 1 [] λ _=>RN.ret [] [0] [0] (v:=.tuple #[]) (H':=(ap [(tb,.lit (Stp.l t mb) 275 (0,0))] [Uy])) ?_
     refine⟨Uy,rfl,?_⟩
     have e:(aR t M)=((aL t 4 1 (((M.set ((af t.S t.i)+6) 0).set ((af t.S t.i)+2) (aF ((al (aD (aD (⟨(ao t.S (M.set ((af t.S t.i)+6) 0) t.i).vx,(ao t.S (M.set ((af t.S t.i)+6) 0) t.i).vy⟩:V2) t.S.g) (⟨i64.wrap (((M.set ((af t.S t.i)+6) 0).get ((ah t.S t.i)+0))*t.S.push),i64.wrap (((M.set ((af t.S t.i)+6) 0).get ((ah t.S t.i)+1))*t.S.push)⟩:V2)) (i64.wrap (1024-t.S.drag))).x) (-16384) 16384)).set ((af t.S t.i)+3) (aF ((al (aD (aD (⟨(ao t.S (M.set ((af t.S t.i)+6) 0) t.i).vx,(ao t.S (M.set ((af t.S t.i)+6) 0) t.i).vy⟩:V2) t.S.g) (⟨i64.wrap (((M.set ((af t.S t.i)+6) 0).get ((ah t.S t.i)+0))*t.S.push),i64.wrap (((M.set ((af t.S t.i)+6) 0).get ((ah t.S t.i)+1))*t.S.push)⟩:V2)) (i64.wrap (1024-t.S.drag))).y) (-16384) 16384))).set 4 0):=by
      first|(simp only[aR,bJ,bO,b7,b6,if_pos h2,if_pos h5,if_pos h9,if_neg Wo];try rfl;done)|rfl
     rw[e]
     exact VV.weak (by omega)
   ·refine ae 4 [] λ _=>RN.draw [8] []<|ag [] [0,1,2,3,4,5,6] [.own 0,.own 0,.own 2]<|RD.cp [] 7 (λ X_=>(eV (aD (⟨(ao t.S (M.set ((af t.S t.i)+6) 0) t.i).vx,(ao t.S (M.set ((af t.S t.i)+6) 0) t.i).vy⟩:V2) t.S.g) (i64.wrap (1024-t.S.drag))  _))<|RD.one 8 (RDO.ev [] [.own 0,.own 0] λ _=>?_)
    refine RD.fin<|ae 2 [] λ _=>RN.draw [] []<|ag [] [0,4,1,5,2,6,3,7] (ow 2 17)<|RD.cp [] 8 (λ X_=>(cO t.S t.i _ hS.toSetN)) ?_
    have hb22:=cN hS.toSetN t.i
    refine ag [] [9] []<|RD.fin<|ae 2 [] λ _=>RN.draw [11] []<|aG [] [0,4,6,1,5,7,2,3,9,10] [.nw,.own 0,.own 2] [aU ((af t.S t.i)+2)]<|RD.cp [] 8 (λ X_=>(cE ((al (aD (⟨(ao t.S (M.set ((af t.S t.i)+6) 0) t.i).vx,(ao t.S (M.set ((af t.S t.i)+6) 0) t.i).vy⟩:V2) t.S.g) (i64.wrap (1024-t.S.drag))).x) (-16384) 16384  _))<|RD.one 11 (RDO.ct [] [] [0] (aj ((af t.S t.i)+2) (aF ((al (aD (⟨(ao t.S (M.set ((af t.S t.i)+6) 0) t.i).vx,(ao t.S (M.set ((af t.S t.i)+6) 0) t.i).vy⟩:V2) t.S.g) (i64.wrap (1024-t.S.drag))).x) (-16384) 16384) L_) ?_)
    rintro _ T23 YT
    refine RD.fin<|ae 1 [] λ _=>RN.draw [11] []<|aG [] [0,4,6,1,5,7,2,3,9,10] [.nw,.own 0,.own 2] [aU ((af t.S t.i)+3)]<|RD.cp [] 8 (λ X_=>(cE ((al (aD (⟨(ao t.S (M.set ((af t.S t.i)+6) 0) t.i).vx,(ao t.S (M.set ((af t.S t.i)+6) 0) t.i).vy⟩:V2) t.S.g) (i64.wrap (1024-t.S.drag))).y) (-16384) 16384  _))<|RD.one 11 (RDO.ct [] [] [0] (aj ((af t.S t.i)+3) (aF ((al (aD (⟨(ao t.S (M.set ((af t.S t.i)+6) 0) t.i).vx,(ao t.S (M.set ((af t.S t.i)+6) 0) t.i).vy⟩:V2) t.S.g) (i64.wrap (1024-t.S.drag))).y) (-16384) 16384) YT) ?_)
    rintro _ XV WZ
    refine RD.fin<|ae 3 [] λ _=>RN.draw [] []<|ag [] [0,5,1,6,2,7,3,8,4,9,10,11] [.own 2,.own 2]<|RD.fin<|ae 1 [] λ _=>RN.em (i64.wrap (t.i+1)<(t.S.nb:Int)) 141 (λ h27=>?_) λ h27=>?_
    ·refine ae 2 [] λ _=>RN.draw [11] []<|ag [] [0,4,1,5,2,6,3,7,8,9,10] [.own 2,.own 2]<|RD.one 11 (RDO.ct [] [] [0] (aj 2 (i64.wrap (t.i+1)) WZ) ?_)
     rintro _ T28 YS
     refine RD.fin<|ae 1 [] λ _=>RN.ret [] [2] [0] (v:=.tuple #[]) (H':=(ap [(tb,.lit (Stp.l t mb) 275 (0,0))] [T28])) ?_
     refine⟨T28,rfl,?_⟩
     have e:(aR t M)=((((M.set ((af t.S t.i)+6) 0).set ((af t.S t.i)+2) (aF ((al (aD (⟨(ao t.S (M.set ((af t.S t.i)+6) 0) t.i).vx,(ao t.S (M.set ((af t.S t.i)+6) 0) t.i).vy⟩:V2) t.S.g) (i64.wrap (1024-t.S.drag))).x) (-16384) 16384)).set ((af t.S t.i)+3) (aF ((al (aD (⟨(ao t.S (M.set ((af t.S t.i)+6) 0) t.i).vx,(ao t.S (M.set ((af t.S t.i)+6) 0) t.i).vy⟩:V2) t.S.g) (i64.wrap (1024-t.S.drag))).y) (-16384) 16384)).set 2 (i64.wrap (t.i+1))):=by
      first|(simp only[aR,bJ,bO,b7,b6,if_pos h2,if_pos h5,if_neg h9,if_pos h27];try rfl;done)|rfl
     rw[e]
     exact YS.weak (by omega)
    ·refine ae 6 [] λ _=>RN.ct [2] [0] (bL t 4 1 tb mb (((M.set ((af t.S t.i)+6) 0).set ((af t.S t.i)+2) (aF ((al (aD (⟨(ao t.S (M.set ((af t.S t.i)+6) 0) t.i).vx,(ao t.S (M.set ((af t.S t.i)+6) 0) t.i).vy⟩:V2) t.S.g) (i64.wrap (1024-t.S.drag))).x) (-16384) 16384)).set ((af t.S t.i)+3) (aF ((al (aD (⟨(ao t.S (M.set ((af t.S t.i)+6) 0) t.i).vx,(ao t.S (M.set ((af t.S t.i)+6) 0) t.i).vy⟩:V2) t.S.g) (i64.wrap (1024-t.S.drag))).y) (-16384) 16384)) (k+2) XV _ WZ hS.up ) ?_
     rintro _ Zf hM31
     refine ae 7 [.own 0] λ _=>RN.ct [] [0] (aj 4 0 hM31) ?_
     rintro _ XT UK
     refine ae 1 [] λ _=>RN.ret [] [0] [0] (v:=.tuple #[]) (H':=(ap [(tb,.lit (Stp.l t mb) 275 (0,0))] [XT])) ?_
     refine⟨XT,rfl,?_⟩
     have e:(aR t M)=((aL t 4 1 (((M.set ((af t.S t.i)+6) 0).set ((af t.S t.i)+2) (aF ((al (aD (⟨(ao t.S (M.set ((af t.S t.i)+6) 0) t.i).vx,(ao t.S (M.set ((af t.S t.i)+6) 0) t.i).vy⟩:V2) t.S.g) (i64.wrap (1024-t.S.drag))).x) (-16384) 16384)).set ((af t.S t.i)+3) (aF ((al (aD (⟨(ao t.S (M.set ((af t.S t.i)+6) 0) t.i).vx,(ao t.S (M.set ((af t.S t.i)+6) 0) t.i).vy⟩:V2) t.S.g) (i64.wrap (1024-t.S.drag))).y) (-16384) 16384))).set 4 0):=by
      first|(simp only[aR,bJ,bO,b7,b6,if_pos h2,if_pos h5,if_neg h9,if_neg h27];try rfl;done)|rfl
     rw[e]
     exact UK.weak (by omega)
  ·refine ae 5 [] λ _=>RN.draw [] []<|ag [] [0,5,1,6,2,7,3,8,4,9,10,11] [.own 0,.own 0]<|RD.fin<|ae 1 [] λ _=>RN.em (i64.wrap (t.i+1)<(t.S.nb:Int)) 141 (λ Xb=>?_) λ Xb=>?_
   ·refine ae 2 [] λ _=>RN.draw [11] []<|ag [] [0,4,1,5,2,6,3,7,8,9,10] [.own 0,.own 0]<|RD.one 11 (RDO.ct [] [] [0] (aj 2 (i64.wrap (t.i+1)) L_) ?_)
    rintro _ ZG VS
    refine RD.fin<|ae 1 [] λ _=>RN.ret [] [0] [0] (v:=.tuple #[]) (H':=(ap [(tb,.lit (Stp.l t mb) 275 (0,0))] [ZG])) ?_
    refine⟨ZG,rfl,?_⟩
    have e:(aR t M)=((M.set ((af t.S t.i)+6) 0).set 2 (i64.wrap (t.i+1))):=by
     first|(simp only[aR,bJ,bO,b7,b6,if_pos h2,if_neg h5,if_pos Xb];try rfl;done)|rfl
    rw[e]
    exact VS.weak (by omega)
   ·refine ae 6 [] λ _=>RN.ct [0] [0] (bL t 4 1 tb mb (M.set ((af t.S t.i)+6) 0) (k+4) T3 _ L_ hS.up ) ?_
    rintro _ T37 VQ
    refine ae 7 [.own 0] λ _=>RN.ct [] [0] (aj 4 0 VQ) ?_
    rintro _ V7 SO
    refine ae 1 [] λ _=>RN.ret [] [0] [0] (v:=.tuple #[]) (H':=(ap [(tb,.lit (Stp.l t mb) 275 (0,0))] [V7])) ?_
    refine⟨V7,rfl,?_⟩
    have e:(aR t M)=((aL t 4 1 (M.set ((af t.S t.i)+6) 0)).set 4 0):=by
     first|(simp only[aR,bJ,bO,b7,b6,if_pos h2,if_neg h5,if_neg Xb];try rfl;done)|rfl
    rw[e]
    exact SO.weak (by omega)
 ·refine ae 11 [.own 0] λ _=>RN.cp (js t t.i tb mb _ (az 0) hS.up)<|ae 2 [] λ _=>RN.em (movP t.S t.i) 32 (λ RM=>?_) λ RM=>?_
  ·have:=movP.has RM
   refine ae 8 [.own 0] λ _=>RN.cp (fE t t.i tb mb M _ T _ (az 0) hS.up hM (ar 0) (movP.has RM))<|ae 5 (ow 0 5) λ n42=>RN.draw [9] []<|ag [] [0,2,1,3,4,5,6] [.own 0,.own 0,.own 1,.own 1]<|RD.cp [] 7 (λ X_=>(eo (⟨(ao t.S M t.i).vx,(ao t.S M t.i).vy⟩:V2) t.S.g  _))<|RD.one 8 (RDO.ev [] [] λ n43=>?_)
   refine RD.one 9 (RDO.ev [] [.own 0,.own 0] λ _=>?_)
   refine RD.fin<|ae 3 [] λ _=>RN.draw [] []<|ag [] [0,4,1,5,2,6,3,7] (ow 2 17)<|RD.cp [] 8 (λ X_=>(gG t.S t.i _ hS.toSetN)) ?_
   have hb44:=gF hS.toSetN t.i
   refine ag [] [9] []<|RD.fin<|ae 7 [] λ _=>RN.em (ah t.S t.i >= 0) 57 (λ h45=>?_) λ h45=>?_
   ·refine ae 2 [] λ _=>RN.draw [] []<|aG [] [0,4,7,11,1,5,8,12,2,9,3,10] [.nw,.nw,.own 2,.own 2] [aU ((ah t.S t.i)+1),aU ((ah t.S t.i)+0)]<|RD.cp [] 6 (λ X_=>(aw ((ah t.S t.i)+0) hM (aS 0)))<|RD.cp [] 13 (λ X_=>(aw ((ah t.S t.i)+1) hM (aS 0)))<|ag [] [14,15] []<|RD.fin<|ae 1 [] λ _=>RN.draw [17] []<|ag [] [0,1,2,8,9,3,10,4,11,5,12,6,13,7,14,15] [.own 0,.own 0,.own 2,.own 2]<|RD.cp [] 16 (λ X_=>(eo (aD (⟨(ao t.S M t.i).vx,(ao t.S M t.i).vy⟩:V2) t.S.g) (⟨i64.wrap ((M.get ((ah t.S t.i)+0))*t.S.push),i64.wrap ((M.get ((ah t.S t.i)+1))*t.S.push)⟩:V2)  _))<|RD.one 17 (RDO.ev [] [.own 0,.own 0] λ _=>?_)
    refine RD.fin<|ae 2 [] λ _=>RN.draw [8] []<|ag [] [0,1,2,3,4,5,6] [.own 0,.own 0,.own 2]<|RD.cp [] 7 (λ X_=>(eV (aD (aD (⟨(ao t.S M t.i).vx,(ao t.S M t.i).vy⟩:V2) t.S.g) (⟨i64.wrap ((M.get ((ah t.S t.i)+0))*t.S.push),i64.wrap ((M.get ((ah t.S t.i)+1))*t.S.push)⟩:V2)) (i64.wrap (1024-t.S.drag))  _))<|RD.one 8 (RDO.ev [] [.own 0,.own 0] λ _=>?_)
    refine RD.fin<|ae 2 [] λ _=>RN.draw [] []<|ag [] [0,4,1,5,2,6,3,7] (ow 2 17)<|RD.cp [] 8 (λ X_=>(cO t.S t.i _ hS.toSetN)) ?_
    have hb46:=cN hS.toSetN t.i
    refine ag [] [9] []<|RD.fin<|ae 2 [] λ _=>RN.draw [11] []<|aG [] [0,4,6,1,5,7,2,3,9,10] [.nw,.own 0,.own 2] [aU ((af t.S t.i)+2)]<|RD.cp [] 8 (λ X_=>(cE ((al (aD (aD (⟨(ao t.S M t.i).vx,(ao t.S M t.i).vy⟩:V2) t.S.g) (⟨i64.wrap ((M.get ((ah t.S t.i)+0))*t.S.push),i64.wrap ((M.get ((ah t.S t.i)+1))*t.S.push)⟩:V2)) (i64.wrap (1024-t.S.drag))).x) (-16384) 16384  _))<|RD.one 11 (RDO.ct [] [] [0] (aj ((af t.S t.i)+2) (aF ((al (aD (aD (⟨(ao t.S M t.i).vx,(ao t.S M t.i).vy⟩:V2) t.S.g) (⟨i64.wrap ((M.get ((ah t.S t.i)+0))*t.S.push),i64.wrap ((M.get ((ah t.S t.i)+1))*t.S.push)⟩:V2)) (i64.wrap (1024-t.S.drag))).x) (-16384) 16384) hM) ?_)
    rintro _ T47 YR
    refine RD.fin<|ae 1 [] λ _=>RN.draw [11] []<|aG [] [0,4,6,1,5,7,2,3,9,10] [.nw,.own 0,.own 2] [aU ((af t.S t.i)+3)]<|RD.cp [] 8 (λ X_=>(cE ((al (aD (aD (⟨(ao t.S M t.i).vx,(ao t.S M t.i).vy⟩:V2) t.S.g) (⟨i64.wrap ((M.get ((ah t.S t.i)+0))*t.S.push),i64.wrap ((M.get ((ah t.S t.i)+1))*t.S.push)⟩:V2)) (i64.wrap (1024-t.S.drag))).y) (-16384) 16384  _))<|RD.one 11 (RDO.ct [] [] [0] (aj ((af t.S t.i)+3) (aF ((al (aD (aD (⟨(ao t.S M t.i).vx,(ao t.S M t.i).vy⟩:V2) t.S.g) (⟨i64.wrap ((M.get ((ah t.S t.i)+0))*t.S.push),i64.wrap ((M.get ((ah t.S t.i)+1))*t.S.push)⟩:V2)) (i64.wrap (1024-t.S.drag))).y) (-16384) 16384) YR) ?_)
    rintro _ Xg SN
    refine RD.fin<|ae 3 [] λ _=>RN.draw [] []<|ag [] [0,5,1,6,2,7,3,8,4,9,10,11] [.own 2,.own 2]<|RD.fin<|ae 1 [] λ _=>RN.em (i64.wrap (t.i+1)<(t.S.nb:Int)) 141 (λ UL=>?_) λ UL=>?_
    ·refine ae 2 [] λ _=>RN.draw [11] []<|ag [] [0,4,1,5,2,6,3,7,8,9,10] [.own 2,.own 2]<|RD.one 11 (RDO.ct [] [] [0] (aj 2 (i64.wrap (t.i+1)) SN) ?_)
     rintro _ Wp VM
     refine RD.fin<|ae 1 [] λ _=>RN.ret [] [2] [0] (v:=.tuple #[]) (H':=(ap [(tb,.lit (Stp.l t mb) 275 (0,0))] [Wp])) ?_
     refine⟨Wp,rfl,?_⟩
     have e:(aR t M)=(((M.set ((af t.S t.i)+2) (aF ((al (aD (aD (⟨(ao t.S M t.i).vx,(ao t.S M t.i).vy⟩:V2) t.S.g) (⟨i64.wrap ((M.get ((ah t.S t.i)+0))*t.S.push),i64.wrap ((M.get ((ah t.S t.i)+1))*t.S.push)⟩:V2)) (i64.wrap (1024-t.S.drag))).x) (-16384) 16384)).set ((af t.S t.i)+3) (aF ((al (aD (aD (⟨(ao t.S M t.i).vx,(ao t.S M t.i).vy⟩:V2) t.S.g) (⟨i64.wrap ((M.get ((ah t.S t.i)+0))*t.S.push),i64.wrap ((M.get ((ah t.S t.i)+1))*t.S.push)⟩:V2)) (i64.wrap (1024-t.S.drag))).y) (-16384) 16384)).set 2 (i64.wrap (t.i+1))):=by
      first|(simp only[aR,bJ,bO,b7,b6,if_neg h2,if_pos RM,if_pos h45,if_pos UL];try rfl;done)|rfl
     rw[e]
     exact VM.weak (by omega)
    ·refine ae 6 [] λ _=>RN.ct [2] [0] (bL t 4 1 tb mb ((M.set ((af t.S t.i)+2) (aF ((al (aD (aD (⟨(ao t.S M t.i).vx,(ao t.S M t.i).vy⟩:V2) t.S.g) (⟨i64.wrap ((M.get ((ah t.S t.i)+0))*t.S.push),i64.wrap ((M.get ((ah t.S t.i)+1))*t.S.push)⟩:V2)) (i64.wrap (1024-t.S.drag))).x) (-16384) 16384)).set ((af t.S t.i)+3) (aF ((al (aD (aD (⟨(ao t.S M t.i).vx,(ao t.S M t.i).vy⟩:V2) t.S.g) (⟨i64.wrap ((M.get ((ah t.S t.i)+0))*t.S.push),i64.wrap ((M.get ((ah t.S t.i)+1))*t.S.push)⟩:V2)) (i64.wrap (1024-t.S.drag))).y) (-16384) 16384)) (k+3) Xg _ SN hS.up ) ?_
     rintro _ T54 VL
     refine ae 7 [.own 0] λ _=>RN.ct [] [0] (aj 4 0 VL) ?_
     rintro _ T56 WX
     refine ae 1 [] λ _=>RN.ret [] [0] [0] (v:=.tuple #[]) (H':=(ap [(tb,.lit (Stp.l t mb) 275 (0,0))] [T56])) ?_
     refine⟨T56,rfl,?_⟩
     have e:(aR t M)=((aL t 4 1 ((M.set ((af t.S t.i)+2) (aF ((al (aD (aD (⟨(ao t.S M t.i).vx,(ao t.S M t.i).vy⟩:V2) t.S.g) (⟨i64.wrap ((M.get ((ah t.S t.i)+0))*t.S.push),i64.wrap ((M.get ((ah t.S t.i)+1))*t.S.push)⟩:V2)) (i64.wrap (1024-t.S.drag))).x) (-16384) 16384)).set ((af t.S t.i)+3) (aF ((al (aD (aD (⟨(ao t.S M t.i).vx,(ao t.S M t.i).vy⟩:V2) t.S.g) (⟨i64.wrap ((M.get ((ah t.S t.i)+0))*t.S.push),i64.wrap ((M.get ((ah t.S t.i)+1))*t.S.push)⟩:V2)) (i64.wrap (1024-t.S.drag))).y) (-16384) 16384))).set 4 0):=by
      first|(simp only[aR,bJ,bO,b7,b6,if_neg h2,if_pos RM,if_pos h45,if_neg UL];try rfl;done)|rfl
     rw[e]
     exact WX.weak (by omega)
   ·refine ae 4 [] λ _=>RN.draw [8] []<|ag [] [0,1,2,3,4,5,6] [.own 0,.own 0,.own 2]<|RD.cp [] 7 (λ X_=>(eV (aD (⟨(ao t.S M t.i).vx,(ao t.S M t.i).vy⟩:V2) t.S.g) (i64.wrap (1024-t.S.drag))  _))<|RD.one 8 (RDO.ev [] [.own 0,.own 0] λ _=>?_)
    refine RD.fin<|ae 2 [] λ _=>RN.draw [] []<|ag [] [0,4,1,5,2,6,3,7] (ow 2 17)<|RD.cp [] 8 (λ X_=>(cO t.S t.i _ hS.toSetN)) ?_
    have hb58:=cN hS.toSetN t.i
    refine ag [] [9] []<|RD.fin<|ae 2 [] λ _=>RN.draw [11] []<|aG [] [0,4,6,1,5,7,2,3,9,10] [.nw,.own 0,.own 2] [aU ((af t.S t.i)+2)]<|RD.cp [] 8 (λ X_=>(cE ((al (aD (⟨(ao t.S M t.i).vx,(ao t.S M t.i).vy⟩:V2) t.S.g) (i64.wrap (1024-t.S.drag))).x) (-16384) 16384  _))<|RD.one 11 (RDO.ct [] [] [0] (aj ((af t.S t.i)+2) (aF ((al (aD (⟨(ao t.S M t.i).vx,(ao t.S M t.i).vy⟩:V2) t.S.g) (i64.wrap (1024-t.S.drag))).x) (-16384) 16384) hM) ?_)
    rintro _ T59 YQ
    refine RD.fin<|ae 1 [] λ _=>RN.draw [11] []<|aG [] [0,4,6,1,5,7,2,3,9,10] [.nw,.own 0,.own 2] [aU ((af t.S t.i)+3)]<|RD.cp [] 8 (λ X_=>(cE ((al (aD (⟨(ao t.S M t.i).vx,(ao t.S M t.i).vy⟩:V2) t.S.g) (i64.wrap (1024-t.S.drag))).y) (-16384) 16384  _))<|RD.one 11 (RDO.ct [] [] [0] (aj ((af t.S t.i)+3) (aF ((al (aD (⟨(ao t.S M t.i).vx,(ao t.S M t.i).vy⟩:V2) t.S.g) (i64.wrap (1024-t.S.drag))).y) (-16384) 16384) YQ) ?_)
    rintro _ T61 hM62
    refine RD.fin<|ae 3 [] λ _=>RN.draw [] []<|ag [] [0,5,1,6,2,7,3,8,4,9,10,11] [.own 2,.own 2]<|RD.fin<|ae 1 [] λ _=>RN.em (i64.wrap (t.i+1)<(t.S.nb:Int)) 141 (λ h63=>?_) λ h63=>?_
    ·refine ae 2 [] λ _=>RN.draw [11] []<|ag [] [0,4,1,5,2,6,3,7,8,9,10] [.own 2,.own 2]<|RD.one 11 (RDO.ct [] [] [0] (aj 2 (i64.wrap (t.i+1)) hM62) ?_)
     rintro _ T64 hM65
     refine RD.fin<|ae 1 [] λ _=>RN.ret [] [2] [0] (v:=.tuple #[]) (H':=(ap [(tb,.lit (Stp.l t mb) 275 (0,0))] [T64])) ?_
     refine⟨T64,rfl,?_⟩
     have e:(aR t M)=(((M.set ((af t.S t.i)+2) (aF ((al (aD (⟨(ao t.S M t.i).vx,(ao t.S M t.i).vy⟩:V2) t.S.g) (i64.wrap (1024-t.S.drag))).x) (-16384) 16384)).set ((af t.S t.i)+3) (aF ((al (aD (⟨(ao t.S M t.i).vx,(ao t.S M t.i).vy⟩:V2) t.S.g) (i64.wrap (1024-t.S.drag))).y) (-16384) 16384)).set 2 (i64.wrap (t.i+1))):=by
      first|(simp only[aR,bJ,bO,b7,b6,if_neg h2,if_pos RM,if_neg h45,if_pos h63];try rfl;done)|rfl
     rw[e]
     exact hM65.weak (by omega)
    ·refine ae 6 [] λ _=>RN.ct [2] [0] (bL t 4 1 tb mb ((M.set ((af t.S t.i)+2) (aF ((al (aD (⟨(ao t.S M t.i).vx,(ao t.S M t.i).vy⟩:V2) t.S.g) (i64.wrap (1024-t.S.drag))).x) (-16384) 16384)).set ((af t.S t.i)+3) (aF ((al (aD (⟨(ao t.S M t.i).vx,(ao t.S M t.i).vy⟩:V2) t.S.g) (i64.wrap (1024-t.S.drag))).y) (-16384) 16384)) (k+3) T61 _ hM62 hS.up ) ?_
     rintro _ T66 hM67
     refine ae 7 [.own 0] λ _=>RN.ct [] [0] (aj 4 0 hM67) ?_
     rintro _ T68 hM69
     refine ae 1 [] λ _=>RN.ret [] [0] [0] (v:=.tuple #[]) (H':=(ap [(tb,.lit (Stp.l t mb) 275 (0,0))] [T68])) ?_
     refine⟨T68,rfl,?_⟩
     have e:(aR t M)=((aL t 4 1 ((M.set ((af t.S t.i)+2) (aF ((al (aD (⟨(ao t.S M t.i).vx,(ao t.S M t.i).vy⟩:V2) t.S.g) (i64.wrap (1024-t.S.drag))).x) (-16384) 16384)).set ((af t.S t.i)+3) (aF ((al (aD (⟨(ao t.S M t.i).vx,(ao t.S M t.i).vy⟩:V2) t.S.g) (i64.wrap (1024-t.S.drag))).y) (-16384) 16384))).set 4 0):=by
      first|(simp only[aR,bJ,bO,b7,b6,if_neg h2,if_pos RM,if_neg h45,if_neg h63];try rfl;done)|rfl
     rw[e]
     exact hM69.weak (by omega)
  ·refine ae 5 [] λ _=>RN.draw [] []<|ag [] [0,5,1,6,2,7,3,8,4,9,10,11] [.own 0,.own 0]<|RD.fin<|ae 1 [] λ _=>RN.em (i64.wrap (t.i+1)<(t.S.nb:Int)) 141 (λ h70=>?_) λ h70=>?_
   ·refine ae 2 [] λ _=>RN.draw [11] []<|ag [] [0,4,1,5,2,6,3,7,8,9,10] [.own 0,.own 0]<|RD.one 11 (RDO.ct [] [] [0] (aj 2 (i64.wrap (t.i+1)) hM) ?_)
    rintro _ T71 hM72
    refine RD.fin<|ae 1 [] λ _=>RN.ret [] [0] [0] (v:=.tuple #[]) (H':=(ap [(tb,.lit (Stp.l t mb) 275 (0,0))] [T71])) ?_
    refine⟨T71,rfl,?_⟩
    have e:(aR t M)=(M.set 2 (i64.wrap (t.i+1))):=by
     first|(simp only[aR,bJ,bO,b7,b6,if_neg h2,if_neg RM,if_pos h70];try rfl;done)|rfl
    rw[e]
    exact hM72.weak (by omega)
   ·refine ae 6 [] λ _=>RN.ct [0] [0] (bL t 4 1 tb mb M (k+5) T _ hM hS.up ) ?_
    rintro _ T73 hM74
    refine ae 7 [.own 0] λ _=>RN.ct [] [0] (aj 4 0 hM74) ?_
    rintro _ T75 hM76
    refine ae 1 [] λ _=>RN.ret [] [0] [0] (v:=.tuple #[]) (H':=(ap [(tb,.lit (Stp.l t mb) 275 (0,0))] [T75])) ?_
    refine⟨T75,rfl,?_⟩
    have e:(aR t M)=((aL t 4 1 M).set 4 0):=by
     first|(simp only[aR,bJ,bO,b7,b6,if_neg h2,if_neg RM,if_neg h70];try rfl;done)|rfl
    rw[e]
    exact hM76.weak (by omega)
theorem zh(t:Stp)  (tb mb:Nat) (M:MemS) (k:Nat) (T F:HL) (hM:MemH mb M (k+4) T) (hS:SetIn F t.S) (hi:movP t.S t.i):Sp Tryz.prog 196 #[vP tb 0] (ap [(tb,.lit (Stp.l t mb) 275 (0,0))] [T]) F (λ u H'=>∃x,H'=ap [(tb,.lit (Stp.l t mb) 275 (0,0))] [x] /\ (MemH mb (dk t M) k x)):=by
 have hp:=hS.pl
 have hn:=hS.nb
 have hr:=hS.room
 refine Sp.run Tryz.func196 rfl (mc hS.blk mn) (A:=[(tb,.lit (Stp.l t mb) 275 (0,0))]) (Ts:=[T]) rfl λ w0=>?_
 refine ae 7 [.own 0] λ _=>RN.cp (fE t t.i tb mb M _ T _ (az 0) hS.up hM (ar 0) (movP.has hi))<|ae 10 (ow 0 5++[.own 1]) λ n1=>RN.cp (aw 5 hM (ar 0))<|ae 6 [] λ _=>RN.draw [8] []<|ag [] [0,2,4,1,3] [.own 0,.own 0,.own 0,.own 0]<|RD.cp [] 5 (λ X_=>(lx (⟨(ao t.S M t.i).vx,(ao t.S M t.i).vy⟩:V2) (if i64.wrap ((M.get 5)+128)<1024 then i64.wrap ((M.get 5)+128) else 1024) 1024  _))<|RD.cp [] 6 (λ X_=>(eo (⟨(ao t.S M t.i).px,(ao t.S M t.i).py⟩:V2) (eL (⟨(ao t.S M t.i).vx,(ao t.S M t.i).vy⟩:V2) (if i64.wrap ((M.get 5)+128)<1024 then i64.wrap ((M.get 5)+128) else 1024) 1024)  _))<|RD.one 7 (RDO.ev [] [] λ n2=>?_)
 refine RD.one 8 (RDO.ev [] [.own 0,.own 0] λ _=>?_)
 refine RD.fin<|ae 2 [] λ _=>RN.draw [16] []<|ag [] [0,4,9,1,5,10,2,6,11,3,7,12,13] (ow 2 21)<|RD.cp [] 8 (λ X_=>(cO t.S t.i _ hS.toSetN)) ?_
 have XJ:=cN hS.toSetN t.i
 refine RD.one 14 (RDO.ev [] [] λ n4=>?_)
 refine ag [] [15] []<|RD.one 16 (RDO.ev [] [.own 0,.own 0,.own 0,.own 0] λ _=>?_)
 refine RD.fin<|ai 14 [.nw,.nw,.own 1,.own 0,.own 0] [aU ((af t.S t.i)+2),aU ((af t.S t.i)+0)] λ _=>RN.ct [3] [0] (tC t ((af t.S t.i)+0) ((af t.S t.i)+2) ((aD (⟨(ao t.S M t.i).px,(ao t.S M t.i).py⟩:V2) (eL (⟨(ao t.S M t.i).vx,(ao t.S M t.i).vy⟩:V2) (if i64.wrap ((M.get 5)+128)<1024 then i64.wrap ((M.get 5)+128) else 1024) 1024)).x) t.S.box.x0 t.S.box.x1 tb mb M (k+2) T _ hM hS.up ) ?_
 rintro _ T5 RL
 refine ai 14 [.nw,.nw,.own 2,.own 1,.own 1] [aU ((af t.S t.i)+3),aU ((af t.S t.i)+1)] λ _=>RN.ct [0] [0] (tC t ((af t.S t.i)+1) ((af t.S t.i)+3) ((aD (⟨(ao t.S M t.i).px,(ao t.S M t.i).py⟩:V2) (eL (⟨(ao t.S M t.i).vx,(ao t.S M t.i).vy⟩:V2) (if i64.wrap ((M.get 5)+128)<1024 then i64.wrap ((M.get 5)+128) else 1024) 1024)).y) t.S.box.y0 t.S.box.y1 tb mb (ep t ((af t.S t.i)+0) ((af t.S t.i)+2) ((aD (⟨(ao t.S M t.i).px,(ao t.S M t.i).py⟩:V2) (eL (⟨(ao t.S M t.i).vx,(ao t.S M t.i).vy⟩:V2) (if i64.wrap ((M.get 5)+128)<1024 then i64.wrap ((M.get 5)+128) else 1024) 1024)).x) t.S.box.x0 t.S.box.x1 M) k T5 _ RL hS.up ) ?_
 rintro _ T7 Sw
 refine ae 1 [] λ _=>RN.ret [] [0] [0] (v:=.tuple #[]) (H':=(ap [(tb,.lit (Stp.l t mb) 275 (0,0))] [T7])) ?_
 refine⟨T7,rfl,?_⟩
 have e:(dk t M)=(ep t ((af t.S t.i)+1) ((af t.S t.i)+3) ((aD (⟨(ao t.S M t.i).px,(ao t.S M t.i).py⟩:V2) (eL (⟨(ao t.S M t.i).vx,(ao t.S M t.i).vy⟩:V2) (if i64.wrap ((M.get 5)+128)<1024 then i64.wrap ((M.get 5)+128) else 1024) 1024)).y) t.S.box.y0 t.S.box.y1 (ep t ((af t.S t.i)+0) ((af t.S t.i)+2) ((aD (⟨(ao t.S M t.i).px,(ao t.S M t.i).py⟩:V2) (eL (⟨(ao t.S M t.i).vx,(ao t.S M t.i).vy⟩:V2) (if i64.wrap ((M.get 5)+128)<1024 then i64.wrap ((M.get 5)+128) else 1024) 1024)).x) t.S.box.x0 t.S.box.x1 M)):=by
  first|(simp only[dk,gA,lZ,if_pos hi];try rfl;done)|rfl
 rw[e]
 exact Sw.weak (by omega)
open Go.Shelf
section
variable {r:Option Nat} {P:Program} {N:Nat} {D:List Deferred} {F:HL} {w0:World} {R:HL} {s:Cfg} {Q:Exit -> Act -> World -> Prop}
def Fp(P:Program)(n0 N:Nat)(R:HL)(s:Cfg):Option (Option Tmp × Nat × Array Value × List Prop):=match s.c with
 | .ops ops i=>zc P n0 N ops.toList i s.L (ap s.A s.Ts) R []
 | _=>none
def Fq(N j:Nat)(s:Cfg)(x:Option (Option Tmp × Nat × Array Value × List Prop)):Option (Nat × Array Value × List Prop × HL):=match x with
 | some (dst,l,args,Ob)=>match s.Ts[j]?,([j]++oth [j] s.Ts.length).isPerm (List.range s.Ts.length) && (fg N dst undef s.L).isSome with
  | some T,true=>some (l,args,Ob,T)
  | _,_=>none
 | none=>none
theorem RN.yield(j:Nat){l:Nat}{args:Array Value}{T:HL}{Rv:Bool -> HL -> Prop}(hc:YL P l args T (ap s.A (eA [j] s)++F) Rv)(hk:∀b H',Rv b H' -> RN r P N D F w0 R (NV j H' (fD N (.bool b) s)) Q)
  (h:∀n0,Fq N j s (Fp P n0 N R s)=some (l,args,[],T):=by intro n0;kernel_rfl):RN r P N D F w0 R s Q:=by
 refine⟨λ hR a w hF aT hB=>?_⟩
 have h':=h w.heap.size
 obtain⟨cc,k,L,A,Ts⟩:=s
 cases cc with
 | code c=>simp[Fp,Fq] at h'
 | ex c=>simp[Fp,Fq] at h'
 | drw _ _=>simp[Fp,Fq] at h'
 | ops ops i =>
 simp only[Fp] at h' hF aT
 generalize hx:zc P w.heap.size N ops.toList i L (ap A Ts) R []=x at h'
 unfold Fq at h'
 split at h'
 case h_2=>cases h'
 rename_i dst l' iN Ob'
 split at h'
 case h_2=>cases h'
 rename_i T' hj hpp
 simp only[Option.some.injEq,Prod.mk.injEq] at h'
 obtain⟨e1,e2,e3,e4⟩:=h'
 subst e1;subst e2;subst e3;subst e4
 simp only at hj hpp
 rw[Bool.and_eq_true] at hpp
 have h':=hx
 unfold zc at h'
 split at h'
 ·cases h'
 rename_i o ho
 split at h'
 case h_2=>cases h'
 rename_i ss hw
 split at h'
 case h_2=>cases h'
 rename_i dO hh he
 split at h'
 case h_2=>cases h'
 rename_i c I_
 split at h'
 case h_2=>cases h'
 rename_i f RB
 split at h'
 case h_2=>cases h'
 rename_i l2 cap bound hf
 split at h'
 case h_2=>cases h'
 rename_i e1 e2
 simp only[Option.some.injEq,Prod.mk.injEq] at h'
 obtain⟨d1,d2,d3,d4⟩:=h'
 subst d2
 have hcap:cap=#[]:=by cases cap;simp_all
 have hbnd:bound=#[]:=by cases bound;simp_all
 subst hcap;subst hbnd
 have K_:ops.toList.drop i=o::ops.toList.drop (i+1):=by
  have iF:i<ops.toList.length:=(List.getElem?_eq_some_iff.1 ho).1
  rw[List.drop_eq_getElem_cons iF,(List.getElem?_eq_some_iff.1 ho).2]
 show wpListIn _ _ _ _ _ _ _ _
 rw[K_,wpListIn]
 have Rz:∀p∈ss.ob,p:=by rw[d4];intro p hp;cases hp
 obtain⟨c1,c2,c3⟩:=ci hw hF Rz
 rw[if_pos c1]
 refine⟨λ _ _=>trivial,?_⟩
 rw[hF.sem dO]
 have rW:=iE (A:=A) hj hpp.1
 have Q1:Rel (T'++(ap A ((oth [j] Ts.length).filterMap (Ts[·]?))++F)) w:=by rw[<- List.append_assoc];exact aT.perm (rW.symm.append_right F).symm
 obtain⟨fn,tmps,assign,body,hy,Ye⟩:=hc w Q1
 rw[zd I_ RB hf,d3,hy,Oper.uponIn_round]
 refine⟨λ h=>(by cases h),RoundIn.mono (show RoundIn (Wr r) (0-1) P l2 fn tmps assign body w _ from Ye) ?_⟩
 rintro e W' ⟨b,H',rfl,hv,R8,Tm⟩
 obtain⟨L',p1⟩:=eJ hpp.2 (.bool b)
 have hh:=(hk b H' hv).h hR
 have RZ:fD N (.bool b) ⟨.ops ops i,k,L,A,Ts⟩=⟨.ops ops (i+1),k,L',A,Ts⟩:=by
  unfold fD
  rw[<- d1] at p1
  simp only[ho,p1]
 rw[RZ] at hh
 rw[<- d1] at p1
 refine hh _ W' (hF.put p1) (R8.perm ?_) (hB.trans Tm)
 rw[<- List.append_assoc]
 refine List.Perm.append_right F ?_
 show (A++(H'::(oth [j] Ts.length).filterMap (Ts[·]?)).flatten).Perm (H'++(A++((oth [j] Ts.length).filterMap (Ts[·]?)).flatten))
 rw[List.flatten_cons,<- List.append_assoc,<- List.append_assoc]
 exact List.Perm.append_right _ List.perm_append_comm
theorem RN.rn{σ:Type}{Ax:σ -> HL}{Tx:σ -> List HL}{I:σ -> Prop}{Ix:Code -> σ -> Prop}(x:σ)(ip jp:List Nat)(hi:I x)(hc:(match s.c,s.k with | .ex .normal,[]=>true|_,_=>false)=true:=by kernel_rfl)
  (hp:bK ip jp s=true:=by kernel_rfl) (hH:picks ip jp s=(Ax x,Tx x):=by kernel_rfl):RN r P N D F w0 R s (RQ F w0 (λ x=>ap (Ax x) (Tx x)) I Ix):=by
 unfold bK at hp
 unfold picks at hH
 rw[Bool.and_eq_true] at hp
 simp only[Prod.mk.injEq] at hH
 refine⟨λ hR a w h1 h2 h3=>?_⟩
 obtain⟨c,k,L,A,Ts⟩:=s
 split at hc
 case h_2=>cases hc
 rename_i e1 e2
 simp only at e1 e2
 subst e1;subst e2
 exact⟨x,hi,h2.takeT ip _ jp _ hp.1 hp.2 (by rw[hH.1,hH.2]),h3⟩
theorem RN.rr{σ:Type}{Ax:σ -> HL}{Tx:σ -> List HL}{I:σ -> Prop}{Ix:Code -> σ -> Prop}(x:σ)(ip jp:List Nat)(hi:Ix .ret x)(hc:(match s.c with | .code .ret=>true|_=>false)=true:=by kernel_rfl)
  (hp:bK ip jp s=true:=by kernel_rfl) (hH:picks ip jp s=(Ax x,Tx x):=by kernel_rfl):RN r P N D F w0 R s (RQ F w0 (λ x=>ap (Ax x) (Tx x)) I Ix):=by
 unfold bK at hp
 unfold picks at hH
 rw[Bool.and_eq_true] at hp
 simp only[Prod.mk.injEq] at hH
 refine⟨λ hR a w h1 h2 h3=>?_⟩
 obtain⟨c,k,L,A,Ts⟩:=s
 split at hc
 case h_2=>cases hc
 rename_i e1
 simp only at e1
 subst e1
 exact wpIn_ret (iQ k ⟨x,hi,h2.takeT ip _ jp _ hp.1 hp.2 (by rw[hH.1,hH.2]),h3⟩)
end
section
variable {P:Program} {N:Nat} {D:List Deferred} {F:HL} {w0:World} {R:HL} {s:Cfg} {Q:Exit -> Act -> World -> Prop}
def im(s:Cfg):Option (Value × Nat):=match s.c with
 | .code (.rangeFunc g ps _ _)=>match kR s.L g with
  | true=>some (ik s.L g,ps.size)
  | false=>none
 | _=>none
def CU(N:Nat)(s:Cfg):Bool:=match s.c with
 | .code (.rangeFunc _ ps _ _)=>ps.toList.all λ p=>decide (p<N)
 | _=>false
def Ml(K:Act -> World -> Prop)(vs:List Value)(A:HL)(Ts:List HL)(s:Cfg):Cfg:=match s with
 | ⟨.code (.rangeFunc _ ps assign _),_,L,_,_⟩=>⟨.code assign,[.met K],mY ps.toList vs L,A,Ts⟩
 | s=>s
def Mm(V:Inv)(s:Cfg):Cfg:=match s with
 | ⟨.code (.rangeFunc _ _ _ body),_,_,_,_⟩=>⟨.code body,[],V.L,V.A,V.Ts⟩
 | s=>s
def Oi(c:Fo)(d:Nat)(ip jp:List Nat)(A:HL)(Ts:List HL)(s:Cfg):Cfg:=match s with
 | ⟨_,k,L,A',TE⟩=>⟨c,k,L,bu d::(A++(oth ip A'.length).filterMap (A'[·]?)),Ts++(oth jp TE.length).filterMap (TE[·]?)⟩
theorem RN.range{α σ τ:Type}{encs:α -> Array Value}{xs:List α}{gf:FuncId}{lb:Array Value}(eg:∀args w,(callFunc gf args).run P w=.ok (.enter gf args) w)
  (S:σ -> HL × List HL) (I:Nat -> σ -> Prop) (Ix:Code -> σ -> Prop) (W:τ -> Inv) (Ia:Nat -> α -> τ -> Prop) (x0:σ) (h0:I 0 x0) (ip jp:List Nat)
  (hit:It P gf lb (ap (dF ip s) (eA jp s)++F) encs xs)
  (iD:∀ (l i:Nat) (x:α) (s1:σ) (Y:HL) (w1:World),xs[i]?=some x -> I i s1 ->
   (∀ {s':Cfg} {R':HL} (t:τ) (Ul Uk:List Nat),Ia i x t -> (hm:CG s'=some (MV N [] (Y++(ap (dF ip s) (eA jp s)++F)) w1 W (Ia i x)):=by kernel_rfl) -> (h:uO (W t) Ul Uk s'=nR (W t):=by kernel_rfl) -> (hp:bK Ul Uk s'=true:=by kernel_rfl) -> RN (some l) P N [] (Y++(ap (dF ip s) (eA jp s)++F)) w1 R' s' (λ _ _ _=>False)) ->
   RN (some l) P N [] (Y++(ap (dF ip s) (eA jp s)++F)) w1 (dF ip s++R) (Ml (MV N [] (Y++(ap (dF ip s) (eA jp s)++F)) w1 W (Ia i x)) (encs x).toList (S s1).1 (S s1).2 s) (λ _ _ _=>False))
  (D_:∀ (l i:Nat) (x:α) (t:τ) (Y:HL) (w1:World),xs[i]?=some x -> Ia i x t -> RN (some l) P N [] (Y++(ap (dF ip s) (eA jp s)++F)) w1 (dF ip s++R) (Mm (W t) s) (RQ (Y++(ap (dF ip s) (eA jp s)++F)) w1 (λ s=>ap (S s).1 (S s).2) (I (i+1)) Ix))
  (DO:∀ (d:Nat) (s1:σ),I xs.length s1 -> RN none P N (coll d::D) F w0 R (Oi (.ex .normal) d ip jp (S s1).1 (S s1).2 s) Q)
  (BY:∀ (d:Nat) (c:Code) (s1:σ),Ix c s1 -> RN none P N (coll d::D) F w0 R (Oi (.code c) d ip jp (S s1).1 (S s1).2 s) Q)
  (R0:CU N s=true:=by kernel_rfl) (hp:bK ip jp s=true:=by kernel_rfl) (hH:picks ip jp s=((S x0).1,(S x0).2):=by kernel_rfl) (hG:(im s).map (·.1)=some (.func (.func gf) #[] lb):=by kernel_rfl) (G_:∀x:α,(im s).map (·.2)=some (encs x).size:=by intro x;kernel_rfl):RN none P N D F w0 R s Q:=by
 refine⟨λ hR=>?_⟩
 obtain⟨c,k,L,A,Ts⟩:=s
 unfold bK at hp
 unfold picks at hH
 rw[Bool.and_eq_true] at hp
 simp only[Prod.mk.injEq] at hH
 cases c with
 | ops _ _=>simp[im] at hG
 | ex _=>simp[im] at hG
 | drw _ _=>simp[im] at hG
 | code c =>
 cases c with
 | rangeFunc g ps assign body =>
  have hi:kR L g=true:=by
   cases h:kR L g with
   | true=>rfl
   | false=>simp[im,h] at hG
  simp only[im,hi,Option.map_some,Option.some.injEq] at hG G_
  simp only[CU] at R0
  have UY:∀ (Y:HL),∀y∈dF ip ⟨.code (.rangeFunc g ps assign body),k,L,A,Ts⟩++R,y∈Y++(ap (dF ip ⟨.code (.rangeFunc g ps assign body),k,L,A,Ts⟩) (eA jp ⟨.code (.rangeFunc g ps assign body),k,L,A,Ts⟩)++F):=by
   intro Y y hy
   rcases List.mem_append.1 hy with hy|hy
   ·exact List.mem_append_right _ (List.mem_append_left _ (List.mem_append_left _ hy))
   ·exact List.mem_append_right _ (List.mem_append_right _ (hR y hy))
  exact CE (assign:=assign) (body:=body) hi hG eg (λ s=>(S s).1) (λ s=>(S s).2) I Ix (λ t=>(W t).L) (λ t=>ap (W t).A (W t).Ts) Ia (λ x=>(G_ x).symm) R0 x0 h0 ip (oth ip A.length) jp (oth jp Ts.length) hp.1 hp.2 _ _ rfl rfl hH.1 hH.2 hit
   (λ l i x s1 Y w1 hx hi=>(iD l i x s1 Y w1 hx hi (λ t Ul Uk ht hm h hp=>qn t Ul Uk ht hm h hp)).h (UY Y))
   (λ l i x t Y w1 hx ht=>(D_ l i x t Y w1 hx ht).h (UY Y))
   (λ d s1 hs=>(DO d s1 hs).h hR) (λ d c s1 hs=>(BY d c s1 hs).h hR)
 | _=>simp[im] at hG
theorem Sp.runM{f:FuncId}{fn:Func}{c:Code}{args:Array Value}{H:HL}{R':Value -> HL -> Prop}(hf:P.funcs[f]?=some fn)(hb:fn.body=some c)(hR:∀y∈R,y∈F){A:HL}{Ts:List HL}(hH:H=ap A Ts)
  (h:∀w0,RN none P fn.ntmps [] F w0 R ⟨.code c,[],qJ 0 args.toList,A,Ts⟩ (bodyPostM (Wr none) 0 P fn (AZ F w0 R'))) (ha:decide (args.size <= fn.ntmps)=true:=by kernel_rfl):Sp P f args H F R':=by
 subst hH
 exact wg hf hb rfl ha _ rfl λ w0=>(h w0).h hR
def kW(dx:List Nat)(s:Cfg):Cfg:=match s with
 | ⟨c,k,L,A,Ts⟩=>⟨c,k,L,(oth dx A.length).filterMap (A[·]?),Ts⟩
theorem Fs{fn:Func}{R':Value -> HL -> Prop}(ds dx:List Nat)(hints:List Hint)(Ob:List Prop)(g_:AllP Ob)(ip jp:List Nat){v:Value}{H':HL}(hv:R' v H')
  (hD:D=ds.map coll:=by rfl) (hc:mZ s=true:=by kernel_rfl) (hd:((dx++oth dx s.A.length).isPerm (List.range s.A.length),dx.filterMap (s.A[·]?))=(true,ds.map bu):=by kernel_rfl)
  (h:∀n0,jT P n0 fn.results.toList R hints (kW dx s)=some (v,nQ (jT P 0 fn.results.toList R hints (kW dx s)),nQ (jT P 0 fn.results.toList R hints (kW dx s)),Ob):=by intro n0;kernel_rfl)
  (hp:bK ip jp (kW dx s)=true:=by kernel_rfl) (hH:ap (picks ip jp (kW dx s)).1 (picks ip jp (kW dx s)).2=H':=by kernel_rfl):RN none P N D F w0 R s (bodyPostM (Wr none) 0 P fn (AZ F w0 R')):=by
 unfold bK at hp
 unfold picks at hH
 simp only[Prod.mk.injEq] at hd
 rw[Bool.and_eq_true] at hp
 obtain⟨c,k,L,A,Ts⟩:=s
 refine⟨λ hR a w hF aT hB=>?_⟩
 have key:LeavesInM (Wr none) 0 P fn a.tmps (AZ F w0 R') a.defers .returning w:=by
  exact Go.Proofs.YtgdcbiiopbpgaaaGreatDoor.retM (by simp) ds hD dx (oth dx A.length) R hints v _ Ob hd.1 hd.2 rfl h hR g_ ip _ jp _ H' hp.1 hp.2 hH hv a w hF aT hB
 exact oN hc key key
theorem RN.retM{fn:Func}{R':Value -> HL -> Prop}(ds dx:List Nat)(hints:List Hint)(ip jp:List Nat){v:Value}{H':HL}(hv:R' v H')
 (hD:D=ds.map coll:=by rfl) (hc:mZ s=true:=by kernel_rfl) (hd:((dx++oth dx s.A.length).isPerm (List.range s.A.length),dx.filterMap (s.A[·]?))=(true,ds.map bu):=by kernel_rfl)
 (h:∀n0,jT P n0 fn.results.toList R hints (kW dx s)=some (v,nQ (jT P 0 fn.results.toList R hints (kW dx s)),nQ (jT P 0 fn.results.toList R hints (kW dx s)),[]):=by intro n0;kernel_rfl)
 (hp:bK ip jp (kW dx s)=true:=by kernel_rfl) (hH:ap (picks ip jp (kW dx s)).1 (picks ip jp (kW dx s)).2=H':=by kernel_rfl):RN none P N D F w0 R s (bodyPostM (Wr none) 0 P fn (AZ F w0 R')):=Fs ds dx hints [] trivial ip jp hv hD hc hd h hp hH
end
theorem ShIn.up{F X:HL}{s:Shp}(h:ShIn F s):ShIn (X++F) s:=h.mono λ x hx=>List.mem_append_right _ hx
def isZ(a:V2):Prop:=((decide (a.x=0) && (decide (a.y=0) && true)))=true
instance (a:V2):Decidable (isZ a):=inferInstanceAs (Decidable (_=true))
def ia(a:V2):V2:=if isZ (kU a) then ⟨1024,0⟩ else kU a
def gH(pos ax:V2)(l:List V2):Nat -> Int × Int
 | 0=>(0,0)
 | k+1=>if (k:Int)=0 then (if dg (aD pos (l.getD k ⟨0,0⟩)) ax<dg (aD pos (l.getD k ⟨0,0⟩)) ax then dg (aD pos (l.getD k ⟨0,0⟩)) ax else dg (aD pos (l.getD k ⟨0,0⟩)) ax,if dg (aD pos (l.getD k ⟨0,0⟩)) ax>dg (aD pos (l.getD k ⟨0,0⟩)) ax then dg (aD pos (l.getD k ⟨0,0⟩)) ax else dg (aD pos (l.getD k ⟨0,0⟩)) ax)
  else (if dg (aD pos (l.getD k ⟨0,0⟩)) ax<(gH pos ax l k).1 then dg (aD pos (l.getD k ⟨0,0⟩)) ax else (gH pos ax l k).1,if dg (aD pos (l.getD k ⟨0,0⟩)) ax>(gH pos ax l k).2 then dg (aD pos (l.getD k ⟨0,0⟩)) ax else (gH pos ax l k).2)
def iV(s:Shp)(pos ax:V2):Int × Int:=if jI s then (bg (dg pos ax-s.r),bg (dg pos ax+s.r)) else gH pos ax s.poly s.poly.length
def m0(a:Shp)(pa:V2)(b:Shp)(pb ax:V2):Int:=bg ((if (iV b pb ax).2<(iV a pa ax).2 then (iV b pb ax).2 else (iV a pa ax).2)-(if (iV b pb ax).1>(iV a pa ax).1 then (iV b pb ax).1 else (iV a pa ax).1))
def NW(off v:V2):Int:=bg (bg ((aD off v).x*(aD off v).x)+bg ((aD off v).y*(aD off v).y))
def eX(off:V2)(l:List V2):Nat -> V2 × Int
 | 0=>(l.getD 0 ⟨0,0⟩,NW off (l.getD 0 ⟨0,0⟩))
 | k+1=>if NW off (l.getD (1+k) ⟨0,0⟩)<(eX off l k).2 then (l.getD (1+k) ⟨0,0⟩,NW off (l.getD (1+k) ⟨0,0⟩)) else eX off l k
def jK(c:V2)(s:Shp)(pos:V2):V2:=aD (dC pos c) (eX (dC pos c) s.poly (s.poly.length-1)).1
theorem iW(a:V2)  (F:HL):Sp Tryz.prog 258 #[.agg #[vI a.x,vI a.y]] [] F (λ u H'=>u=.agg #[vI ((ia a).x),vI ((ia a).y)] /\ H'=[]):=by
 refine Sp.run Tryz.func258 rfl mn (A:=[]) (Ts:=[]) rfl λ w0=>?_
 refine ae 10 [.own 1,.own 1] λ n1=>RN.cp (CP a  _)<|ae 11 [.own 0,.own 0,.own 0,.own 0,.sq] λ n2=>tq ((decide ((kU a).x=0) && (decide ((kU a).y=0) && true))) 8 (λ h3=>?_) λ h3=>?_
 ·refine ae 9 [.own 1,.own 1] λ _=>RN.ret [.own 1,.own 1] [] [] (v:=.agg #[vI 1024,vI 0]) (H':=[]) ?_
  refine⟨?_,rfl⟩
  first|rw[show ia a=⟨1024,0⟩ from if_pos (by assumption)]|rw[show ia a=kU a from if_neg (by assumption)]
 ·refine ae 7 [.own 0,.own 0,.own 1,.own 1] λ _=>RN.ret [.own 1,.own 1] [] [] (v:=.agg #[vI ((kU a).x),vI ((kU a).y)]) (H':=[]) ?_
  refine⟨?_,rfl⟩
  first|rw[show ia a=⟨1024,0⟩ from if_pos (by assumption)]|rw[show ia a=kU a from if_neg (by assumption)]
theorem wv(r:Int)(A:Option Addr)(cap:Nat)(pos ax:V2)(F:HL):Sp Tryz.prog 261 #[.agg #[vI r,.slice A 0 cap],.agg #[vI pos.x,vI pos.y],.agg #[vI ax.x,vI ax.y]] [] F (λ u H'=>u=.tuple #[vI (iV ⟨r,[],A,cap⟩ pos ax).1,vI (iV ⟨r,[],A,cap⟩ pos ax).2] /\ H'=[]):=by
 refine Sp.run Tryz.func261 rfl mn (A:=[]) (Ts:=[]) rfl λ w0=>?_
 refine ae 13 [.own 2,.own 2] λ n1=>RN.cp (oP r A 0 cap _)<|ae 7 [.own 1,.own 1,.own 0,.own 0] λ _=>RN.cp (nV pos ax  _)<|ae 4 [] λ _=>RN.draw [] []<|ag [] [0,1,4,5,2,6,3,7,8,9] [.own 2,.own 2]<|RD.fin<|ae 1 [] λ _=>?_
 exact RN.ret [] [] [] ⟨rfl,rfl⟩
theorem CV(r:Int)(l:List V2)(b cap:Nat)(pos ax:V2)(F:HL)(hb:(b,.rows 2 cap (jV l) 29 (0,0))∈F)(Sf:3 <= l.length)(h4:l.length <= cap)(h5:l.length <= 1000000):Sp Tryz.prog 261 #[.agg #[vI r,vS b 0 l.length cap],.agg #[vI pos.x,vI pos.y],.agg #[vI ax.x,vI ax.y]] [] F (λ u H'=>u=.tuple #[vI (iV ⟨r,l,some ⟨b,0,none⟩,cap⟩ pos ax).1,vI (iV ⟨r,l,some ⟨b,0,none⟩,cap⟩ pos ax).2] /\ H'=[]):=by
 refine Sp.run Tryz.func261 rfl (mc hb mn) (A:=[]) (Ts:=[]) rfl λ w0=>?_
 refine ae 13 [.own 2,.own 2] λ n1=>RN.cp (oP r (some ⟨b,0,none⟩) l.length cap _)<|ae 2 [] λ _=>cH 13 (decide_eq_false (show ¬ ((l.length:Int)=0) by omega))<|ae 13 [.own 2] λ _=>RN.loop (σ:=Nat) (λ k=>⟨[(4,vP (n1+1) 0),(5,vP (n1+2) 0),(6,vI ((gH pos ax l k).1)),(7,vI ((gH pos ax l k).2)),(26,vS b 0 l.length cap),(27,vI (l.length:Int)),(28,vI (k:Int))],[((n1+2),.lit [vI ax.x,vI ax.y] 29 (0,0)),((n1+1),.lit [vI pos.x,vI pos.y] 29 (0,0)),((n1+0),.lit [vI r,vS b 0 l.length cap] 73 (0,0))],[],k <= l.length,l.length-k⟩) 0 [0,1,2] [] (Nat.zero_le _) ?_
 rintro k YY Ri
 refine ae 6 [] λ _=>RN.em ((k:Int)<(l.length:Int)) 29 (λ h4=>?_) λ h4=>?_
 ·refine ai 16 [.ix k,.rorow 0 k 0,.rorow 0 k 1,.own 0,.own 0] [((0+k*2)+1)=k*2+1 /\ k<cap,(0+k*2)=k*2+0 /\ k<cap,(k:Int)=((k:Nat):Int) /\ k<l.length] λ n5=>RN.draw [] []<|ag [] [0,1,3] [.own 2,.own 2,.own 0,.own 0,.own 1,.own 1]<|RD.cp [] 2 (λ X_=>(eo pos (l.getD k ⟨0,0⟩)  _))<|RD.cp [] 4 (λ X_=>(nV (aD pos (l.getD k ⟨0,0⟩)) ax  _))<|ag [] [5] []<|RD.fin<|ae 8 [] λ _=>RN.em ((k:Int)=0) 39 (λ h6=>?_) λ h6=>?_
  ·refine ai 24 [.nw] [aU ((k:Int)+1)] λ _=>?_
   have e_:gH pos ax l (k+1)=(if dg (aD pos (l.getD k ⟨0,0⟩)) ax<dg (aD pos (l.getD k ⟨0,0⟩)) ax then dg (aD pos (l.getD k ⟨0,0⟩)) ax else dg (aD pos (l.getD k ⟨0,0⟩)) ax,if dg (aD pos (l.getD k ⟨0,0⟩)) ax>dg (aD pos (l.getD k ⟨0,0⟩)) ax then dg (aD pos (l.getD k ⟨0,0⟩)) ax else dg (aD pos (l.getD k ⟨0,0⟩)) ax):=by
    rw[gH,if_pos h6]
   refine aB 6 (congrArg (λ v_=>(vI v_:Value)) (congrArg Prod.fst e_).symm)<|aB 7 (congrArg (λ v_=>(vI v_:Value)) (congrArg Prod.snd e_).symm) ?_
   refine Ri (k+1) [1,2,3] [] ?_
   try dsimp only
   exact⟨by omega,by omega⟩
  ·refine ai 19 [.nw] [aU ((k:Int)+1)] λ _=>?_
   have e_:gH pos ax l (k+1)=(if dg (aD pos (l.getD k ⟨0,0⟩)) ax<(gH pos ax l k).1 then dg (aD pos (l.getD k ⟨0,0⟩)) ax else (gH pos ax l k).1,if dg (aD pos (l.getD k ⟨0,0⟩)) ax>(gH pos ax l k).2 then dg (aD pos (l.getD k ⟨0,0⟩)) ax else (gH pos ax l k).2):=by
    rw[gH,if_neg h6]
   refine aB 6 (congrArg (λ v_=>(vI v_:Value)) (congrArg Prod.fst e_).symm)<|aB 7 (congrArg (λ v_=>(vI v_:Value)) (congrArg Prod.snd e_).symm) ?_
   refine Ri (k+1) [1,2,3] [] ?_
   try dsimp only
   exact⟨by omega,by omega⟩
 ·refine ae 14 [] λ _=>RN.ret [] [] [] (v:=.tuple #[vI ((gH pos ax l k).1),vI ((gH pos ax l k).2)]) (H':=[]) ?_
  have ek:k=l.length:=by omega
  subst ek
  refine⟨?_,rfl⟩
  unfold iV
  rw[if_neg (by intro e;simp[jI] at e;rw[e] at Sf;simp at Sf)]
theorem wx(s:Shp)(pos ax:V2)(F:HL)(h:ShIn F s):Sp Tryz.prog 261 #[NT s,.agg #[vI pos.x,vI pos.y],.agg #[vI ax.x,vI ax.y]] [] F (λ u H'=>u=.tuple #[vI (iV s pos ax).1,vI (iV s pos ax).2] /\ H'=[]):=by
 cases h with
 | circle r A cap=>exact wv r A cap pos ax F
 | poly r l b cap h h3 h4 h5=>exact CV r l b cap pos ax F h h3 h4 h5
theorem CW(a:Shp)(pa:V2)(b:Shp)(pb ax:V2)(F:HL)(ha:ShIn F a)(hb:ShIn F b):Sp Tryz.prog 233 #[.agg #[vI a.r,.slice a.A a.poly.length a.cap],.agg #[vI pa.x,vI pa.y],.agg #[vI b.r,.slice b.A b.poly.length b.cap],.agg #[vI pb.x,vI pb.y],.agg #[vI ax.x,vI ax.y]] [] F (λ u H'=>u=vI (m0 a pa b pb ax) /\ H'=[]):=by
 refine Sp.run Tryz.func233 rfl mn (A:=[]) (Ts:=[]) rfl λ w0=>?_
 refine ae 15 [.own 4,.own 4,.own 3,.own 3,.own 0,.own 0] λ n1=>RN.cp (wx a pa ax _ (ha.up))<|ae 12 [.own 2,.own 2,.own 1,.own 1,.own 0,.own 0] λ _=>RN.cp (wx b pb ax _ (hb.up))<|ae 19 [] λ _=>?_
 exact RN.ret [] [] [] ⟨rfl,rfl⟩
theorem Bj(v off:V2)(q:Nat)(F:HL)(hq:(q,.lit [vI off.x,vI off.y] 29 (0,0))∈F):Sp Tryz.prog 294 #[.agg #[vI v.x,vI v.y],vP q 0] [] F (λ u H'=>u=vI (NW off v) /\ H'=[]):=by
 refine Sp.run Tryz.func294 rfl (mc hq mn) (A:=[]) (Ts:=[]) rfl λ w0=>?_
 refine ae 10 [.ro 0,.ro 0,.own 0,.own 0] λ n1=>RN.cp (eo off v  _)<|ae 20 (ow 0 6) λ n2=>?_
 exact RN.ret [] [] [] ⟨rfl,rfl⟩
theorem CX(l:List V2)(b cap:Nat)(off:V2)(q:Nat)(F:HL)(hb:(b,.rows 2 cap (jV l) 29 (0,0))∈F)(h3:3 <= l.length)(h4:l.length <= cap)(h5:l.length <= 1000000)(hq:(q,.lit [vI off.x,vI off.y] 29 (0,0))∈F):Sp Tryz.prog 293 #[vS b 0 l.length cap,.func (.func 294) #[] #[vP q 0]] [] F (λ u H'=>u=.agg #[vI (((eX off l (l.length-1)).1).x),vI (((eX off l (l.length-1)).1).y)] /\ H'=[]):=by
 refine Sp.run Tryz.func293 rfl (mc hb (mc hq mn)) (A:=[]) (Ts:=[]) rfl λ w0=>?_
 refine ae 6 [] λ n1=>RN.draw [9] [0]<|aG [0] [0,3,4,1,5,2,6] [.ix 0,.ix 0,.rorow 0 0 0,.rorow 0 0 1,.rorow 0 0 0,.rorow 0 0 1] [((0+0*2)+1)=0*2+1 /\ 0<cap,(0+0*2)=0*2+0 /\ 0<cap,((0+0*2)+1)=0*2+1 /\ 0<cap,(0+0*2)=0*2+0 /\ 0<cap,0=((0:Nat):Int) /\ 0<l.length,0=((0:Nat):Int) /\ 0<l.length]<|RD.cp [0] 7 (λ X_=>(Bj (l.getD 0 ⟨0,0⟩) off q _ (List.mem_append_right _ (List.mem_append_right _ hq))))<|RD.one 8 (RDO.ev [] [] λ n3=>?_)
 refine RD.one 9 (RDO.ev [1] [.own 0,.own 0] λ _=>?_)
 refine ag [1] [10] []<|RD.fin<|ai 11 [.sl 1 l.length false] [1=((1:Nat):Int) /\ l.length=l.length /\ 1 <= l.length /\ l.length <= cap /\ cap≠1] λ _=>RN.loop (σ:=Nat) (λ k=>⟨[(1,.func (.func 294) #[] #[vP q 0]),(4,vP (n1+0) 0),(5,vP (n3+0) 0),(6,vI ((eX off l k).2)),(19,vS b 2 (l.length-1) (cap-1)),(20,vI (((l.length-1):Nat):Int)),(21,vI (k:Int))],[((n3+0),.lit [vI ((eX off l k).1.x),vI ((eX off l k).1.y)] 29 (0,0)),((n1+0),.lit [vI 0,vI 0] 29 (0,0))],[],k <= l.length-1,l.length-k⟩) 0 [0,1] [] (Nat.zero_le _) ?_
 rintro k hI4 SQ
 refine ae 6 [] λ _=>RN.em ((k:Int)<(((l.length-1):Nat):Int)) 22 (λ h6=>?_) λ h6=>?_
 ·refine ai 17 [.ix k,.rorow 0 (1+k) 0,.rorow 0 (1+k) 1,.own 0,.own 0,.own 0,.own 0] [((2+k*2)+1)=(1+k)*2+1 /\ (1+k)<cap,(2+k*2)=(1+k)*2+0 /\ (1+k)<cap,(k:Int)=((k:Nat):Int) /\ k<(l.length-1)] λ n7=>RN.cp (Bj (l.getD (1+k) ⟨0,0⟩) off q _ (List.mem_append_right _ hq))<|ae 10 [] λ _=>RN.em (NW off (l.getD (1+k) ⟨0,0⟩)<(eX off l k).2) 30 (λ h8=>?_) λ h8=>?_
  ·refine ai 13 [.own 0,.own 0,.own 1,.own 1,.nw] [aU ((k:Int)+1)] λ _=>?_
   have e_:eX off l (k+1)=(l.getD (1+k) ⟨0,0⟩,NW off (l.getD (1+k) ⟨0,0⟩)):=by rw[eX,if_pos h8]
   refine aB 6 (congrArg (λ v_=>(vI v_:Value)) (congrArg Prod.snd e_).symm)<|cj 1 (congrArg (λ v_=>(.lit [vI v_.1.x,vI v_.1.y] 29 (0,0):Blk)) e_.symm) ?_
   refine SQ (k+1) [1,2] [] ?_
   try dsimp only
   exact⟨by omega,by omega⟩
  ·refine ai 8 [.nw] [aU ((k:Int)+1)] λ _=>?_
   have e_:eX off l (k+1)=eX off l k:=by rw[eX,if_neg h8]
   refine aB 6 (congrArg (λ v_=>(vI v_:Value)) (congrArg Prod.snd e_).symm)<|cj 1 (congrArg (λ v_=>(.lit [vI v_.1.x,vI v_.1.y] 29 (0,0):Blk)) e_.symm) ?_
   refine SQ (k+1) [1,2] [] ?_
   try dsimp only
   exact⟨by omega,by omega⟩
 ·refine ae 12 [.own 0,.own 0,.own 1,.own 1] λ _=>RN.ret [.own 1,.own 1] [] [] (v:=.agg #[vI ((eX off l k).1.x),vI ((eX off l k).1.y)]) (H':=[]) ?_
  have ek:k=l.length-1:=by omega
  subst ek
  exact⟨rfl,rfl⟩
def pL(l:List V2)(k:Nat):V2:=ia ⟨bg ((l.getD (((k:Int)+1) % (l.length:Int)).toNat ⟨0,0⟩).y-(l.getD k ⟨0,0⟩).y),bg ((l.getD k ⟨0,0⟩).x-(l.getD (((k:Int)+1) % (l.length:Int)).toNat ⟨0,0⟩).x)⟩
def oS(l:List V2):List V2:=(List.range l.length).map (pL l)
def ly(a:Shp)(pa:V2)(b:Shp)(pb:V2):List V2:=if jI a then if jI b then [ia (dC pb pa)] else [ia (jK pa b pb)] else if jI b then [ia (jK pb a pa)] else []
def aH(a:Shp)(pa:V2)(b:Shp)(pb:V2):List V2:=oS a.poly++(oS b.poly++ly a pa b pb)
theorem dU(l:List V2):(oS l).length=l.length:=by simp[oS]
theorem qT{l:List V2}{k:Nat}(h:k<l.length):(oS l)[k]?=some (pL l k):=by simp[oS,h]
theorem Ft{a:Shp}{pa:V2}{b:Shp}{pb:V2}{k:Nat}(h:k<a.poly.length):(aH a pa b pb)[k]?=some (pL a.poly k):=by
 unfold aH
 rw[List.getElem?_append_left (by rw[dU];exact h),qT h]
theorem Fu{a:Shp}{pa:V2}{b:Shp}{pb:V2}{k:Nat}(h:k<b.poly.length):(aH a pa b pb)[a.poly.length+k]?=some (pL b.poly k):=by
 unfold aH
 rw[List.getElem?_append_right (by rw[dU];omega),dU,Nat.add_sub_cancel_left,List.getElem?_append_left (by rw[dU];exact h),qT h]
theorem zi{a:Shp}{pa:V2}{b:Shp}{pb x:V2}(h:ly a pa b pb=[x]):(aH a pa b pb)[a.poly.length+b.poly.length]?=some x:=by
 unfold aH
 rw[List.getElem?_append_right (by rw[dU];omega),dU,Nat.add_sub_cancel_left,List.getElem?_append_right (by rw[dU];omega),dU,Nat.sub_self,h]
 rfl
theorem nW{a:Shp}{pa:V2}{b:Shp}{pb:V2}{m:Nat}(h:(ly a pa b pb).length=m):(aH a pa b pb).length=a.poly.length+b.poly.length+m:=by
 unfold aH
 rw[List.length_append,List.length_append,dU,dU,h];omega
theorem bD(T:HL):ap [] [T]=T:=by simp
abbrev Fv(x:V2):Array Value:=#[.agg #[vI x.x,vI x.y]]
theorem pM(c:V2)(r:Int)(l:List V2)(b cap:Nat)(pos:V2)(F:HL)(hb:(b,.rows 2 cap (jV l) 29 (0,0))∈F)(Sf:3 <= l.length)(h4:l.length <= cap)(h5:l.length <= 1000000):Sp Tryz.prog 260 #[.agg #[vI c.x,vI c.y],.agg #[vI r,vS b 0 l.length cap],.agg #[vI pos.x,vI pos.y]] [] F (λ u H'=>u=.agg #[vI ((jK c ⟨r,l,some ⟨b,0,none⟩,cap⟩ pos).x),vI ((jK c ⟨r,l,some ⟨b,0,none⟩,cap⟩ pos).y)] /\ H'=[]):=by
 refine Sp.run Tryz.func260 rfl (mc hb mn) (A:=[]) (Ts:=[]) rfl λ w0=>?_
 refine ae 12 [.own 1,.own 1,.own 3,.own 3] λ n1=>RN.cp (iT pos c  _)<|ae 9 [.own 0,.own 0,.own 3] λ n2=>RN.cp (CX l b cap (dC pos c) (n2+0) _ (List.mem_append_right _ hb) Sf h4 h5 (az 0))<|ae 8 [.own 0,.own 0,.own 1,.own 1,.own 0,.own 0] λ n3=>RN.cp (eo (dC pos c) ((eX (dC pos c) l (l.length-1)).1)  _)<|ae 3 [.own 2,.own 2] λ _=>?_
 exact RN.ret [.own 2,.own 2] [] [] ⟨rfl,rfl⟩
theorem JC(pa pb:V2)(ra rb:Int)(ca cb:Nat)(Aa:Option Addr)(Ab:Option Addr)(q1 q2 q3 q4 lp:Nat)(X F:HL)(J:Nat -> HL -> Prop)(Jx:HL -> Prop)(T0:HL)(SF:(q1,.lit [vI ra,.slice Aa 0 ca] 73 (0,0))∈F)(QY:(q2,.lit [vI rb,.slice Ab 0 cb] 73 (0,0))∈F)(SE:(q3,.lit [vI pb.x,vI pb.y] 29 (0,0))∈F)(TO:(q4,.lit [vI pa.x,vI pa.y] 29 (0,0))∈F)(hY:∀i x H Y,(aH (⟨ra,[],Aa,ca⟩:Shp) pa (⟨rb,[],Ab,cb⟩:Shp) pb)[i]?=some x -> J i H -> YL Tryz.prog lp (Fv x) H (Y++(X++F)) (λ b H'=>(b=true /\ J (i+1) H') \/ (b=false /\ Jx H')))(Sx:J 0 T0):Sp Tryz.prog 257 #[.func (.yield lp) #[] #[],vP q1 0,vP q2 0,vP q3 0,vP q4 0] (ap [] [T0]) (X++F) (λ _ H'=>J (aH (⟨ra,[],Aa,ca⟩:Shp) pa (⟨rb,[],Ab,cb⟩:Shp) pb).length H' \/ Jx H'):=by
 have YI:jI (⟨ra,[],Aa,ca⟩:Shp):=rfl
 have YH:jI (⟨rb,[],Ab,cb⟩:Shp):=rfl
 have Rc:ly (⟨ra,[],Aa,ca⟩:Shp) pa (⟨rb,[],Ab,cb⟩:Shp) pb=[ia (dC pb pa)]:=by simp only[ly,if_pos YI,if_pos YH]
 have hlen:(aH (⟨ra,[],Aa,ca⟩:Shp) pa (⟨rb,[],Ab,cb⟩:Shp) pb).length=([]:List V2).length+([]:List V2).length+1:=nW (by rw[Rc];rfl)
 refine Sp.run Tryz.func257 rfl (mc (List.mem_append_right X SF) (mc (List.mem_append_right X QY) (mc (List.mem_append_right X SE) (mc (List.mem_append_right X TO) mn)))) (A:=[]) (Ts:=[T0]) rfl λ w0=>?_
 refine ae 12 [.ro 0,.ro 1] λ _=>RN.rounds 2<|ae 25 [] λ _=>RN.rounds 1<|ae 43 [] λ _=>RN.rounds 1<|ae 34 [.ro 0,.ro 0] λ _=>RN.cp (iU ra Aa 0 ca _)<|ae 2 [.ro 1,.ro 1] λ _=>RN.cp (iU rb Ab 0 cb _)<|ae 9 [.ro 2,.ro 2,.ro 3,.ro 3] λ _=>RN.cp (iT pb pa  _)<|RN.cp (iW (dC pb pa)  _) ?_
 refine RN.yield 0 (hY 0 (ia (dC pb pa)) _ _ (zi Rc) Sx) ?_
 rintro b_ T1 (⟨rfl,hJ2⟩|⟨rfl,hJ2⟩)
 ·refine ae 2 [] λ _=>RN.ret [] [] [0] (v:=.tuple #[]) (H':=(ap [] [T1])) ?_
  rw[bD]
  exact .inl (by rw[hlen];exact hJ2)
 ·refine ae 2 [] λ _=>RN.ret [] [] [0] (v:=.tuple #[]) (H':=(ap [] [T1])) ?_
  rw[bD]
  exact .inr hJ2
theorem JD(pa pb:V2)(ra rb:Int)(ca cb:Nat)(Aa:Option Addr)(lb:List V2)(bb:Nat)(q1 q2 q3 q4 lp:Nat)(X F:HL)(J:Nat -> HL -> Prop)(Jx:HL -> Prop)(T0:HL)(SF:(q1,.lit [vI ra,.slice Aa 0 ca] 73 (0,0))∈F)(QY:(q2,.lit [vI rb,vS bb 0 lb.length cb] 73 (0,0))∈F)(SE:(q3,.lit [vI pb.x,vI pb.y] 29 (0,0))∈F)(TO:(q4,.lit [vI pa.x,vI pa.y] 29 (0,0))∈F)(VF:(bb,.rows 2 cb (jV lb) 29 (0,0))∈F)(h3b:3 <= lb.length)(h4b:lb.length <= cb)(h5b:lb.length <= 1000000)(hY:∀i x H Y,(aH (⟨ra,[],Aa,ca⟩:Shp) pa (⟨rb,lb,some ⟨bb,0,none⟩,cb⟩:Shp) pb)[i]?=some x -> J i H -> YL Tryz.prog lp (Fv x) H (Y++(X++F)) (λ b H'=>(b=true /\ J (i+1) H') \/ (b=false /\ Jx H')))(Sx:J 0 T0):Sp Tryz.prog 257 #[.func (.yield lp) #[] #[],vP q1 0,vP q2 0,vP q3 0,vP q4 0] (ap [] [T0]) (X++F) (λ _ H'=>J (aH (⟨ra,[],Aa,ca⟩:Shp) pa (⟨rb,lb,some ⟨bb,0,none⟩,cb⟩:Shp) pb).length H' \/ Jx H'):=by
 have YI:jI (⟨ra,[],Aa,ca⟩:Shp):=rfl
 have YH:¬ jI (⟨rb,lb,some ⟨bb,0,none⟩,cb⟩:Shp):=by intro e;simp[jI] at e;subst e;simp at h3b
 have Rc:ly (⟨ra,[],Aa,ca⟩:Shp) pa (⟨rb,lb,some ⟨bb,0,none⟩,cb⟩:Shp) pb=[ia (jK pa (⟨rb,lb,some ⟨bb,0,none⟩,cb⟩:Shp) pb)]:=by simp only[ly,if_pos YI,if_neg YH]
 have hlen:(aH (⟨ra,[],Aa,ca⟩:Shp) pa (⟨rb,lb,some ⟨bb,0,none⟩,cb⟩:Shp) pb).length=([]:List V2).length+lb.length+1:=nW (by rw[Rc];rfl)
 refine Sp.run Tryz.func257 rfl (mc (List.mem_append_right X SF) (mc (List.mem_append_right X QY) (mc (List.mem_append_right X SE) (mc (List.mem_append_right X TO) (mc (List.mem_append_right X VF) mn))))) (A:=[]) (Ts:=[T0]) rfl λ w0=>?_
 refine ae 12 [.ro 0,.ro 1] λ _=>RN.rounds 2<|ae 25 [] λ _=>RN.rounds 1<|ae 43 [] λ _=>RN.loop (σ:=Nat × HL) (λ ⟨k,T_⟩=>⟨[(0,.func (.yield lp) #[] #[]),(1,vP q1 0),(2,vP q2 0),(3,vP q3 0),(4,vP q4 0),(7,vS bb 0 lb.length cb),(15,.agg #[.slice Aa 0 ca,vS bb 0 lb.length cb]),(16,vI 1),(19,vS bb 0 lb.length cb),(20,vI (lb.length:Int)),(21,vI (k:Int))],[],[T_],k <= lb.length /\ J (([]:List V2).length+k) T_,lb.length-k⟩) (0,T0) [] [0] (⟨Nat.zero_le _,Sx⟩) ?_
 rintro⟨k,T_⟩ ⟨TT,Q8⟩ Rx
 skip
 refine ae 6 [] λ _=>RN.em ((k:Int)<(lb.length:Int)) 22 (λ h3=>?_) λ h3=>?_
 ·refine ai 22 [.ix k,.rorow 4 k 0,.rorow 4 k 1,.own 0,.own 0,.nw] [aU ((k:Int)+1),((0+k*2)+1)=k*2+1 /\ k<cb,(0+k*2)=k*2+0 /\ k<cb,(k:Int)=((k:Nat):Int) /\ k<lb.length] λ n4=>?_
  have hm1:=Int.emod_nonneg ((k:Int)+1) (show (lb.length:Int)≠0 by omega)
  have hm2:=Int.emod_lt_of_pos ((k:Int)+1) (show (0:Int)<lb.length by omega)
  refine ai 21 [.nw,.ix ((((k:Int)+1) % (lb.length:Int)).toNat),.rorow 4 ((((k:Int)+1) % (lb.length:Int)).toNat) 0,.rorow 4 ((((k:Int)+1) % (lb.length:Int)).toNat) 1,.own 0,.own 0,.own 0,.own 1,.own 1,.own 0] [((0+((((k:Int)+1) % (lb.length:Int)).toNat)*2)+1)=((((k:Int)+1) % (lb.length:Int)).toNat)*2+1 /\ ((((k:Int)+1) % (lb.length:Int)).toNat)<cb,(0+((((k:Int)+1) % (lb.length:Int)).toNat)*2)=((((k:Int)+1) % (lb.length:Int)).toNat)*2+0 /\ ((((k:Int)+1) % (lb.length:Int)).toNat)<cb,((k:Int)+1) % (lb.length:Int)=(((((k:Int)+1) % (lb.length:Int)).toNat:Nat):Int) /\ (((k:Int)+1) % (lb.length:Int)).toNat<lb.length,0 <= (k:Int)+1 /\ (0:Int)<(lb.length:Int) /\ (k:Int)+1 <= 9223372036854775807] λ n5=>RN.cp (iW (⟨i64.wrap (((lb.getD ((((k:Int)+1) % (lb.length:Int)).toNat) ⟨0,0⟩).y)-((lb.getD k ⟨0,0⟩).y)),i64.wrap (((lb.getD k ⟨0,0⟩).x)-((lb.getD ((((k:Int)+1) % (lb.length:Int)).toNat) ⟨0,0⟩).x))⟩:V2)  _)<|RN.yield 0 (hY (([]:List V2).length+k) (pL lb k) _ _ (Fu (a:=(⟨ra,[],Aa,ca⟩:Shp)) (by show k<lb.length;omega)) Q8) ?_
  rintro b_ T6 (⟨rfl,VZ⟩|⟨rfl,VZ⟩)
  ·refine ai 11 [.gen,.nw] [aU ((k:Int)+1)] λ _=>?_
   refine Rx (k+1,T6) [] [0] ?_
   try dsimp only
   exact⟨⟨by omega,VZ⟩,by omega⟩
  ·refine ae 4 [] λ _=>RN.ret [] [] [0] (v:=.tuple #[]) (H':=(ap [] [T6])) ?_
   rw[bD]
   exact .inr VZ
 ·have ek1:k=lb.length:=by omega
  subst ek1
  refine ae 28 [.ro 0,.ro 0] λ _=>RN.cp (iU ra Aa 0 ca _)<|ae 2 [.ro 1,.ro 1] λ _=>RN.cp (iU rb (some ⟨bb,0,none⟩) lb.length cb _)<|ae 4 [] λ _=>cH 51 (decide_eq_false (show ¬ ((lb.length:Int)=0) by omega))<|ae 4 [.ro 0,.ro 0] λ _=>RN.cp (iU ra Aa 0 ca _)<|ae 9 [.ro 3,.ro 3,.ro 1,.ro 1,.ro 2,.ro 2] λ _=>RN.cp (pM pa rb lb bb cb pb _ (List.mem_append_right _ (List.mem_append_right X VF)) h3b h4b h5b)<|RN.cp (iW (jK pa (⟨rb,lb,some ⟨bb,0,none⟩,cb⟩:Shp) pb)  _)<|RN.yield 0 (hY (([]:List V2).length+lb.length) (ia (jK pa (⟨rb,lb,some ⟨bb,0,none⟩,cb⟩:Shp) pb)) _ _ (zi Rc) Q8) ?_
  rintro b_ T8 (⟨rfl,VY⟩|⟨rfl,VY⟩)
  ·refine ae 2 [] λ _=>RN.ret [] [] [0] (v:=.tuple #[]) (H':=(ap [] [T8])) ?_
   rw[bD]
   exact .inl (by rw[hlen];exact VY)
  ·refine ae 2 [] λ _=>RN.ret [] [] [0] (v:=.tuple #[]) (H':=(ap [] [T8])) ?_
   rw[bD]
   exact .inr VY
theorem JE(pa pb:V2)(ra rb:Int)(ca cb:Nat)(la:List V2)(ba:Nat)(Ab:Option Addr)(q1 q2 q3 q4 lp:Nat)(X F:HL)(J:Nat -> HL -> Prop)(Jx:HL -> Prop)(T0:HL)(SF:(q1,.lit [vI ra,vS ba 0 la.length ca] 73 (0,0))∈F)(QY:(q2,.lit [vI rb,.slice Ab 0 cb] 73 (0,0))∈F)(SE:(q3,.lit [vI pb.x,vI pb.y] 29 (0,0))∈F)(TO:(q4,.lit [vI pa.x,vI pa.y] 29 (0,0))∈F)(hba:(ba,.rows 2 ca (jV la) 29 (0,0))∈F)(h3a:3 <= la.length)(h4a:la.length <= ca)(h5a:la.length <= 1000000)(hY:∀i x H Y,(aH (⟨ra,la,some ⟨ba,0,none⟩,ca⟩:Shp) pa (⟨rb,[],Ab,cb⟩:Shp) pb)[i]?=some x -> J i H -> YL Tryz.prog lp (Fv x) H (Y++(X++F)) (λ b H'=>(b=true /\ J (i+1) H') \/ (b=false /\ Jx H')))(Sx:J 0 T0):Sp Tryz.prog 257 #[.func (.yield lp) #[] #[],vP q1 0,vP q2 0,vP q3 0,vP q4 0] (ap [] [T0]) (X++F) (λ _ H'=>J (aH (⟨ra,la,some ⟨ba,0,none⟩,ca⟩:Shp) pa (⟨rb,[],Ab,cb⟩:Shp) pb).length H' \/ Jx H'):=by
 have YI:¬ jI (⟨ra,la,some ⟨ba,0,none⟩,ca⟩:Shp):=by intro e;simp[jI] at e;subst e;simp at h3a
 have YH:jI (⟨rb,[],Ab,cb⟩:Shp):=rfl
 have Rc:ly (⟨ra,la,some ⟨ba,0,none⟩,ca⟩:Shp) pa (⟨rb,[],Ab,cb⟩:Shp) pb=[ia (jK pb (⟨ra,la,some ⟨ba,0,none⟩,ca⟩:Shp) pa)]:=by simp only[ly,if_neg YI,if_pos YH]
 have hlen:(aH (⟨ra,la,some ⟨ba,0,none⟩,ca⟩:Shp) pa (⟨rb,[],Ab,cb⟩:Shp) pb).length=la.length+([]:List V2).length+1:=nW (by rw[Rc];rfl)
 refine Sp.run Tryz.func257 rfl (mc (List.mem_append_right X SF) (mc (List.mem_append_right X QY) (mc (List.mem_append_right X SE) (mc (List.mem_append_right X TO) (mc (List.mem_append_right X hba) mn))))) (A:=[]) (Ts:=[T0]) rfl λ w0=>?_
 refine ae 12 [.ro 0,.ro 1] λ _=>RN.rounds 2<|ae 25 [] λ _=>RN.loop (σ:=Nat × HL) (λ ⟨k,T_⟩=>⟨[(0,.func (.yield lp) #[] #[]),(1,vP q1 0),(2,vP q2 0),(3,vP q3 0),(4,vP q4 0),(7,vS ba 0 la.length ca),(15,.agg #[vS ba 0 la.length ca,.slice Ab 0 cb]),(16,vI 0),(19,vS ba 0 la.length ca),(20,vI (la.length:Int)),(21,vI (k:Int))],[],[T_],k <= la.length /\ J (k) T_,la.length-k⟩) (0,T0) [] [0] (⟨Nat.zero_le _,Sx⟩) ?_
 rintro⟨k,T_⟩ ⟨TT,Q8⟩ Rx
 skip
 refine ae 6 [] λ _=>RN.em ((k:Int)<(la.length:Int)) 22 (λ h3=>?_) λ h3=>?_
 ·refine ai 22 [.ix k,.rorow 4 k 0,.rorow 4 k 1,.own 0,.own 0,.nw] [aU ((k:Int)+1),((0+k*2)+1)=k*2+1 /\ k<ca,(0+k*2)=k*2+0 /\ k<ca,(k:Int)=((k:Nat):Int) /\ k<la.length] λ n4=>?_
  have hm1:=Int.emod_nonneg ((k:Int)+1) (show (la.length:Int)≠0 by omega)
  have hm2:=Int.emod_lt_of_pos ((k:Int)+1) (show (0:Int)<la.length by omega)
  refine ai 21 [.nw,.ix ((((k:Int)+1) % (la.length:Int)).toNat),.rorow 4 ((((k:Int)+1) % (la.length:Int)).toNat) 0,.rorow 4 ((((k:Int)+1) % (la.length:Int)).toNat) 1,.own 0,.own 0,.own 0,.own 1,.own 1,.own 0] [((0+((((k:Int)+1) % (la.length:Int)).toNat)*2)+1)=((((k:Int)+1) % (la.length:Int)).toNat)*2+1 /\ ((((k:Int)+1) % (la.length:Int)).toNat)<ca,(0+((((k:Int)+1) % (la.length:Int)).toNat)*2)=((((k:Int)+1) % (la.length:Int)).toNat)*2+0 /\ ((((k:Int)+1) % (la.length:Int)).toNat)<ca,((k:Int)+1) % (la.length:Int)=(((((k:Int)+1) % (la.length:Int)).toNat:Nat):Int) /\ (((k:Int)+1) % (la.length:Int)).toNat<la.length,0 <= (k:Int)+1 /\ (0:Int)<(la.length:Int) /\ (k:Int)+1 <= 9223372036854775807] λ n5=>RN.cp (iW (⟨i64.wrap (((la.getD ((((k:Int)+1) % (la.length:Int)).toNat) ⟨0,0⟩).y)-((la.getD k ⟨0,0⟩).y)),i64.wrap (((la.getD k ⟨0,0⟩).x)-((la.getD ((((k:Int)+1) % (la.length:Int)).toNat) ⟨0,0⟩).x))⟩:V2)  _)<|RN.yield 0 (hY k (pL la k) _ _ (Ft (by show k<la.length;omega)) Q8) ?_
  rintro b_ T6 (⟨rfl,VZ⟩|⟨rfl,VZ⟩)
  ·refine ai 11 [.gen,.nw] [aU ((k:Int)+1)] λ _=>?_
   refine Rx (k+1,T6) [] [0] ?_
   try dsimp only
   exact⟨⟨by omega,VZ⟩,by omega⟩
  ·refine ae 4 [] λ _=>RN.ret [] [] [0] (v:=.tuple #[]) (H':=(ap [] [T6])) ?_
   rw[bD]
   exact .inr VZ
 ·have ek0:k=la.length:=by omega
  subst ek0
  refine ae 37 [] λ _=>RN.rounds 1<|ae 34 [.ro 0,.ro 0] λ _=>RN.cp (iU ra (some ⟨ba,0,none⟩) la.length ca _)<|ae 1 [] λ _=>cH 54 (decide_eq_false (show ¬ ((la.length:Int)=0) by omega))<|ae 10 [.ro 0,.ro 0] λ _=>RN.cp (iU ra (some ⟨ba,0,none⟩) la.length ca _)<|ae 3 [] λ _=>cH 64 (decide_eq_false (show ¬ ((la.length:Int)=0) by omega))<|ae 4 [.ro 1,.ro 1] λ _=>RN.cp (iU rb Ab 0 cb _)<|ae 9 [.ro 2,.ro 2,.ro 0,.ro 0,.ro 3,.ro 3] λ _=>?_
  refine RN.cp (pM pb ra la ba ca pa _ (List.mem_append_right _ (List.mem_append_right X hba)) h3a h4a h5a)<|RN.cp (iW (jK pb (⟨ra,la,some ⟨ba,0,none⟩,ca⟩:Shp) pa)  _)<|RN.yield 0 (hY la.length (ia (jK pb (⟨ra,la,some ⟨ba,0,none⟩,ca⟩:Shp) pa)) _ _ (zi Rc) Q8) ?_
  rintro b_ T8 (⟨rfl,VY⟩|⟨rfl,VY⟩)
  ·refine ae 2 [] λ _=>RN.ret [] [] [0] (v:=.tuple #[]) (H':=(ap [] [T8])) ?_
   rw[bD]
   exact .inl (by rw[hlen];exact VY)
  ·refine ae 2 [] λ _=>RN.ret [] [] [0] (v:=.tuple #[]) (H':=(ap [] [T8])) ?_
   rw[bD]
   exact .inr VY
theorem JF(pa pb:V2)(ra rb:Int)(ca cb:Nat)(la:List V2)(ba:Nat)(lb:List V2)(bb:Nat)(q1 q2 q3 q4 lp:Nat)(X F:HL)(J:Nat -> HL -> Prop)(Jx:HL -> Prop)(T0:HL)(SF:(q1,.lit [vI ra,vS ba 0 la.length ca] 73 (0,0))∈F)(QY:(q2,.lit [vI rb,vS bb 0 lb.length cb] 73 (0,0))∈F)(SE:(q3,.lit [vI pb.x,vI pb.y] 29 (0,0))∈F)(TO:(q4,.lit [vI pa.x,vI pa.y] 29 (0,0))∈F)(hba:(ba,.rows 2 ca (jV la) 29 (0,0))∈F)(h3a:3 <= la.length)(h4a:la.length <= ca)(h5a:la.length <= 1000000)(VF:(bb,.rows 2 cb (jV lb) 29 (0,0))∈F)(h3b:3 <= lb.length)(h4b:lb.length <= cb)(h5b:lb.length <= 1000000)(hY:∀i x H Y,(aH (⟨ra,la,some ⟨ba,0,none⟩,ca⟩:Shp) pa (⟨rb,lb,some ⟨bb,0,none⟩,cb⟩:Shp) pb)[i]?=some x -> J i H -> YL Tryz.prog lp (Fv x) H (Y++(X++F)) (λ b H'=>(b=true /\ J (i+1) H') \/ (b=false /\ Jx H')))(Sx:J 0 T0):Sp Tryz.prog 257 #[.func (.yield lp) #[] #[],vP q1 0,vP q2 0,vP q3 0,vP q4 0] (ap [] [T0]) (X++F) (λ _ H'=>J (aH (⟨ra,la,some ⟨ba,0,none⟩,ca⟩:Shp) pa (⟨rb,lb,some ⟨bb,0,none⟩,cb⟩:Shp) pb).length H' \/ Jx H'):=by
 have YI:¬ jI (⟨ra,la,some ⟨ba,0,none⟩,ca⟩:Shp):=by intro e;simp[jI] at e;subst e;simp at h3a
 have YH:¬ jI (⟨rb,lb,some ⟨bb,0,none⟩,cb⟩:Shp):=by intro e;simp[jI] at e;subst e;simp at h3b
 have Rc:ly (⟨ra,la,some ⟨ba,0,none⟩,ca⟩:Shp) pa (⟨rb,lb,some ⟨bb,0,none⟩,cb⟩:Shp) pb=[]:=by simp only[ly,if_neg YI,if_neg YH]
 have hlen:(aH (⟨ra,la,some ⟨ba,0,none⟩,ca⟩:Shp) pa (⟨rb,lb,some ⟨bb,0,none⟩,cb⟩:Shp) pb).length=la.length+lb.length+0:=nW (by rw[Rc];rfl)
 refine Sp.run Tryz.func257 rfl (mc (List.mem_append_right X SF) (mc (List.mem_append_right X QY) (mc (List.mem_append_right X SE) (mc (List.mem_append_right X TO) (mc (List.mem_append_right X hba) (mc (List.mem_append_right X VF) mn)))))) (A:=[]) (Ts:=[T0]) rfl λ w0=>?_
 refine ae 12 [.ro 0,.ro 1] λ _=>RN.rounds 2<|ae 25 [] λ _=>RN.loop (σ:=Nat × HL) (λ ⟨k,T_⟩=>⟨[(0,.func (.yield lp) #[] #[]),(1,vP q1 0),(2,vP q2 0),(3,vP q3 0),(4,vP q4 0),(7,vS ba 0 la.length ca),(15,.agg #[vS ba 0 la.length ca,vS bb 0 lb.length cb]),(16,vI 0),(19,vS ba 0 la.length ca),(20,vI (la.length:Int)),(21,vI (k:Int))],[],[T_],k <= la.length /\ J (k) T_,la.length-k⟩) (0,T0) [] [0] (⟨Nat.zero_le _,Sx⟩) ?_
 rintro⟨k,T_⟩ ⟨TT,Q8⟩ Rx
 skip
 refine ae 6 [] λ _=>RN.em ((k:Int)<(la.length:Int)) 22 (λ h3=>?_) λ h3=>?_
 ·refine ai 22 [.ix k,.rorow 4 k 0,.rorow 4 k 1,.own 0,.own 0,.nw] [aU ((k:Int)+1),((0+k*2)+1)=k*2+1 /\ k<ca,(0+k*2)=k*2+0 /\ k<ca,(k:Int)=((k:Nat):Int) /\ k<la.length] λ n4=>?_
  have hm1:=Int.emod_nonneg ((k:Int)+1) (show (la.length:Int)≠0 by omega)
  have hm2:=Int.emod_lt_of_pos ((k:Int)+1) (show (0:Int)<la.length by omega)
  refine ai 21 [.nw,.ix ((((k:Int)+1) % (la.length:Int)).toNat),.rorow 4 ((((k:Int)+1) % (la.length:Int)).toNat) 0,.rorow 4 ((((k:Int)+1) % (la.length:Int)).toNat) 1,.own 0,.own 0,.own 0,.own 1,.own 1,.own 0] [((0+((((k:Int)+1) % (la.length:Int)).toNat)*2)+1)=((((k:Int)+1) % (la.length:Int)).toNat)*2+1 /\ ((((k:Int)+1) % (la.length:Int)).toNat)<ca,(0+((((k:Int)+1) % (la.length:Int)).toNat)*2)=((((k:Int)+1) % (la.length:Int)).toNat)*2+0 /\ ((((k:Int)+1) % (la.length:Int)).toNat)<ca,((k:Int)+1) % (la.length:Int)=(((((k:Int)+1) % (la.length:Int)).toNat:Nat):Int) /\ (((k:Int)+1) % (la.length:Int)).toNat<la.length,0 <= (k:Int)+1 /\ (0:Int)<(la.length:Int) /\ (k:Int)+1 <= 9223372036854775807] λ n5=>RN.cp (iW (⟨i64.wrap (((la.getD ((((k:Int)+1) % (la.length:Int)).toNat) ⟨0,0⟩).y)-((la.getD k ⟨0,0⟩).y)),i64.wrap (((la.getD k ⟨0,0⟩).x)-((la.getD ((((k:Int)+1) % (la.length:Int)).toNat) ⟨0,0⟩).x))⟩:V2)  _)<|RN.yield 0 (hY k (pL la k) _ _ (Ft (by show k<la.length;omega)) Q8) ?_
  rintro b_ T6 (⟨rfl,VZ⟩|⟨rfl,VZ⟩)
  ·refine ai 11 [.gen,.nw] [aU ((k:Int)+1)] λ _=>?_
   refine Rx (k+1,T6) [] [0] ?_
   try dsimp only
   exact⟨⟨by omega,VZ⟩,by omega⟩
  ·refine ae 4 [] λ _=>RN.ret [] [] [0] (v:=.tuple #[]) (H':=(ap [] [T6])) ?_
   rw[bD]
   exact .inr VZ
 ·have ek0:k=la.length:=by omega
  subst ek0
  refine ae 37 [] λ _=>RN.loop (σ:=Nat × HL) (λ ⟨k,T_⟩=>⟨[(0,.func (.yield lp) #[] #[]),(1,vP q1 0),(2,vP q2 0),(3,vP q3 0),(4,vP q4 0),(7,vS bb 0 lb.length cb),(15,.agg #[vS ba 0 la.length ca,vS bb 0 lb.length cb]),(16,vI 1),(19,vS bb 0 lb.length cb),(20,vI (lb.length:Int)),(21,vI (k:Int))],[],[T_],k <= lb.length /\ J (la.length+k) T_,lb.length-k⟩) (0,T_) [] [0] (⟨Nat.zero_le _,Q8⟩) ?_
  rintro⟨k,T_⟩ ⟨TT,Q8⟩ mt9
  skip
  refine ae 6 [] λ _=>RN.em ((k:Int)<(lb.length:Int)) 22 (λ Uf=>?_) λ Uf=>?_
  ·refine ai 22 [.ix k,.rorow 5 k 0,.rorow 5 k 1,.own 0,.own 0,.nw] [aU ((k:Int)+1),((0+k*2)+1)=k*2+1 /\ k<cb,(0+k*2)=k*2+0 /\ k<cb,(k:Int)=((k:Nat):Int) /\ k<lb.length] λ n11=>?_
   have hm1:=Int.emod_nonneg ((k:Int)+1) (show (lb.length:Int)≠0 by omega)
   have hm2:=Int.emod_lt_of_pos ((k:Int)+1) (show (0:Int)<lb.length by omega)
   refine ai 21 [.nw,.ix ((((k:Int)+1) % (lb.length:Int)).toNat),.rorow 5 ((((k:Int)+1) % (lb.length:Int)).toNat) 0,.rorow 5 ((((k:Int)+1) % (lb.length:Int)).toNat) 1,.own 0,.own 0,.own 0,.own 1,.own 1,.own 0] [((0+((((k:Int)+1) % (lb.length:Int)).toNat)*2)+1)=((((k:Int)+1) % (lb.length:Int)).toNat)*2+1 /\ ((((k:Int)+1) % (lb.length:Int)).toNat)<cb,(0+((((k:Int)+1) % (lb.length:Int)).toNat)*2)=((((k:Int)+1) % (lb.length:Int)).toNat)*2+0 /\ ((((k:Int)+1) % (lb.length:Int)).toNat)<cb,((k:Int)+1) % (lb.length:Int)=(((((k:Int)+1) % (lb.length:Int)).toNat:Nat):Int) /\ (((k:Int)+1) % (lb.length:Int)).toNat<lb.length,0 <= (k:Int)+1 /\ (0:Int)<(lb.length:Int) /\ (k:Int)+1 <= 9223372036854775807] λ Xm=>RN.cp (iW (⟨i64.wrap (((lb.getD ((((k:Int)+1) % (lb.length:Int)).toNat) ⟨0,0⟩).y)-((lb.getD k ⟨0,0⟩).y)),i64.wrap (((lb.getD k ⟨0,0⟩).x)-((lb.getD ((((k:Int)+1) % (lb.length:Int)).toNat) ⟨0,0⟩).x))⟩:V2)  _)<|RN.yield 0 (hY (la.length+k) (pL lb k) _ _ (Fu (a:=(⟨ra,la,some ⟨ba,0,none⟩,ca⟩:Shp)) (by show k<lb.length;omega)) Q8) ?_
   rintro b_ To (⟨rfl,YV⟩|⟨rfl,YV⟩)
   ·refine ai 11 [.gen,.nw] [aU ((k:Int)+1)] λ _=>?_
    refine mt9 (k+1,To) [] [0] ?_
    try dsimp only
    exact⟨⟨by omega,YV⟩,by omega⟩
   ·refine ae 4 [] λ _=>RN.ret [] [] [0] (v:=.tuple #[]) (H':=(ap [] [To])) ?_
    rw[bD]
    exact .inr YV
  ·have ek1:k=lb.length:=by omega
   subst ek1
   refine ae 28 [.ro 0,.ro 0] λ _=>RN.cp (iU ra (some ⟨ba,0,none⟩) la.length ca _)<|ae 1 [] λ _=>cH 54 (decide_eq_false (show ¬ ((la.length:Int)=0) by omega))<|ae 10 [.ro 0,.ro 0] λ _=>RN.cp (iU ra (some ⟨ba,0,none⟩) la.length ca _)<|ae 3 [] λ _=>cH 64 (decide_eq_false (show ¬ ((la.length:Int)=0) by omega))<|ae 4 [.ro 1,.ro 1] λ _=>RN.cp (iU rb (some ⟨bb,0,none⟩) lb.length cb _)<|ae 3 [] λ _=>cH 74 (decide_eq_false (show ¬ ((lb.length:Int)=0) by omega))<|ae 3 [] λ _=>?_
   refine RN.ret [] [] [0] (v:=.tuple #[]) (H':=(ap [] [T_])) ?_
   rw[bD]
   exact .inl (by rw[hlen];exact Q8)
end Go.Proofs.YtgdcbiiopbpgaaaGreatDoor
