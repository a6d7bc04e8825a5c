import Derived.Test.YtghjbimijeinfaaGreatDoorZ07
set_option maxHeartbeats 4000000
set_option maxRecDepth 100000
set_option linter.unusedSimpArgs false
set_option linter.unusedVariables false
namespace Go.Proofs.YtghjbimijeinfaaGreatDoor
open Go.RowKit
structure Inp where (dx dy act:Int)
abbrev dI:Inp:=⟨0,0,0⟩
structure Ins where (op n:Int)
abbrev dIns:Ins:=⟨0,0⟩
structure Eff where (t i k v:Int)
abbrev bk:Eff:=⟨0,0,0,0⟩
def gw:Enc Inp:=⟨3,λ p k=>match k with | 0=>vI p.dx | 1=>vI p.dy | _=>vI p.act,dI⟩
noncomputable def I9:TypeInfo:=match Tryz.prog.info? 151 with | some i=>i | none=>⟨.bool,"",0,0,false,0,0,none,false,#[]⟩
noncomputable def Ja:Value:=match I9.zero with | some z=>z | none=>.bool false
theorem pI:EncOk gw Tryz.prog 151 I9 Ja where
 info:=by kernel_rfl
 zero:=by kernel_rfl
 size:=by kernel_rfl
 zsize:=by kernel_rfl
 zcell:=λ k hk=>by
  have h:∀ k < 3,Ja.cells[k]?=some (gw.cell gw.dflt k):=by intro k hk;(iterate 3 (rcases k with _ | k;· kernel_rfl));omega
  exact h k hk
 one:=λ x k=>by unfold gw;dsimp only;split <;> rfl
 bytes:=Nat.le_of_ble_eq_true (by kernel_rfl)
abbrev kx (l:List Inp):Nat -> Nat -> Value:=cK gw l
structure Stp where
 S:Setup
 cA:Option Addr
 cn:Nat
 cc:Nat
 e0:Int
 e1:Int
 e2:Int
 version:Int
 ib:Nat
 io:Nat
 ni:Nat
 ic:Nat
 iR:Nat
 ins:List Inp
 i:Int
 j:Int
 ended:Bool
 f0:Int
 f1:Int
 f2:Int
 f3:Int
 emitted:Bool
 code:List Ins
def Stp.inp (t:Stp) (k:Nat):Inp:=t.ins.getD (t.io+k) dI
def movP (S:Setup) (k:Int):Prop:=(0 <= k /\ k < S.nb) /\ (S.body k.toNat).mot.inv > 0
instance (S:Setup) (k:Int):Decidable (movP S k):=inferInstanceAs (Decidable (_ /\ _))
theorem movP.has {S:Setup} {k:Int} (h:movP S k):0 <= k /\ k < S.nb:=h.1
def aq (S:Setup) (M:MemS) (k:Int):Mot:=⟨M.get (af S k+0),M.get (af S k+1),M.get (af S k+2),M.get (af S k+3),(S.body k.toNat).mot.inv⟩
def aL (t:Stp) (ph j:Int) (M:MemS):MemS:=((M.set 1 ph).set 2 0).set 3 j
def dC (t:Stp) (k:Int) (m:Mot) (M:MemS):MemS:=(((M.set (af t.S k+0) m.px).set (af t.S k+1) m.py).set (af t.S k+2) m.vx).set (af t.S k+3) m.vy
def dS (t:Stp) (c sp pos lo hi:Int) (M:MemS):MemS:=if aF pos lo hi=pos then M.set c (aF pos lo hi) else (M.set c (aF pos lo hi)).set sp (aY (0 - fL ((M.set c (aF pos lo hi)).get sp) t.S.rest))
def bd (t:Stp) (M:MemS):MemS:=if t.i=0 then (M.set 13 t.version).set 11 0 else M
def bn (t:Stp) (M:MemS):MemS:=if ah t.S t.i >= 0 then if t.i < t.ni then ((M.set (ah t.S t.i+0) (t.inp t.i.toNat).dx).set (ah t.S t.i+1) (t.inp t.i.toNat).dy).set (ah t.S t.i+2) (t.inp t.i.toNat).act else M else M
def bT (t:Stp) (M:MemS):MemS:=if aY (t.i+1) < t.S.players then M.set 2 (aY (t.i+1)) else aL t 1 0 M
def aO (t:Stp) (M:MemS):MemS:=bT t (bn t (bd t M))
abbrev Stp.l (t:Stp) (mb:Nat):List Value:=[.iface 40 (vP mb 0),vI t.S.players,vS t.S.bb (t.S.bo * 9) t.S.nb t.S.bc,vI t.S.box.x0,vI t.S.box.y0,vI t.S.box.x1,vI t.S.box.y1,.slice t.S.rA t.S.rn t.S.rc,.slice t.S.dA t.S.dn t.S.dc,vI t.S.fog,vI t.S.g.x,vI t.S.g.y,vI t.S.push,vI t.S.drag,vI t.S.rest,vI t.S.rounds,vI t.S.fuel,.slice t.cA t.cn t.cc,vI t.e0,vI t.e1,vI t.e2,vI t.version,vS t.ib (t.io * 3) t.ni t.ic,vI t.i,vI t.j,.bool t.ended,vI t.f0,vI t.f1,vI t.f2,vI t.f3,.bool t.emitted]
abbrev Stp.lp (t:Stp) (mb:Nat):List Value:=[.iface 40 (vP mb 0),vI t.S.players,vS t.S.bb (t.S.bo * 9) t.S.nb t.S.bc,vI t.S.box.x0,vI t.S.box.y0,vI t.S.box.x1,vI t.S.box.y1,.slice t.S.rA t.S.rn t.S.rc,.slice t.S.dA t.S.dn t.S.dc,vI t.S.fog,vI t.S.g.x,vI t.S.g.y,vI t.S.push,vI t.S.drag,vI t.S.rest,vI t.S.rounds,vI t.S.fuel,.slice t.cA t.cn t.cc,vI t.e0,vI t.e1,vI t.e2,vI t.version,vS t.ib (t.io * 3) t.ni t.ic,vI t.i,vI t.j,.bool t.ended]
theorem o9 (t:Stp) (k:Int) (tb mb:Nat) (F:HL) (hb:(tb,.lit (Stp.l t mb) 140 (0,0)) ∈ F):Sp Tryz.prog 95 #[vP tb 0,vI k] [] F (λ u H'=>u=.bool (decide (0 <= k /\ k < t.S.nb)) /\ H'=[]):=by
 refine Sp.run Tryz.func95 rfl (mc hb mn) (A:=[]) (Ts:=[]) rfl λ w0=>?_
 refine ae 10 [] λ _=>RN.em (k >= 0) 7 (λ h1=>?_) λ h1=>?_
 ·refine ae 12 [.ro 0] λ _=>RN.ret [] [] [] (v:=.bool (decide (k < (t.S.nb:Int)))) (H':=[]) ?_
  exact ⟨by simp [*],rfl⟩
 ·refine ae 12 [] λ _=>RN.ret [] [] [] (v:=.bool false) (H':=[]) ?_
  exact ⟨by simp [*],rfl⟩
theorem iL (t:Stp) (k:Int) (tb mb:Nat) (F:HL) (hb:(tb,.lit (Stp.l t mb) 140 (0,0)) ∈ F) (hS:SetIn F t.S):Sp Tryz.prog 88 #[vP tb 0,vI k] [] F (λ u H'=>u=.bool (decide (movP t.S k)) /\ H'=[]):=by
 have hn:=hS.nb
 have hr:=hS.room
 refine Sp.run Tryz.func88 rfl (mc hb (mc hS.blk mn)) (A:=[]) (Ts:=[]) rfl λ w0=>?_
 refine ae 9 [] λ _=>aj (o9 t k tb mb _ (List.mem_append_right _ hb))<|ae 1 [] λ _=>RN.em (0 <= k /\ k < t.S.nb) 8 (λ h1=>?_) λ h1=>?_
 ·refine al 15 [.ro 0,.ix ((k).toNat),.rorow 1 (t.S.bo+((k).toNat)) 6] [((t.S.bo * 9+((k).toNat) * 9)+6)=(t.S.bo+((k).toNat)) * 9+6 /\ (t.S.bo+((k).toNat)) < t.S.bR,k=(((k).toNat:Nat):Int) /\ (k).toNat < t.S.nb] λ _=>RN.ret [] [] [] (v:=.bool (decide ((t.S.bods.getD (t.S.bo+((k).toNat)) dB).mot.inv > 0))) (H':=[]) ?_
  refine ⟨?_,rfl⟩
  simp [movP,Setup.body, *]
 ·refine ae 15 [] λ _=>RN.ret [] [] [] (v:=.bool false) (H':=[]) ?_
  refine ⟨?_,rfl⟩
  simp [movP,Setup.body, *]
theorem fk (t:Stp) (i:Int) (tb mb:Nat) (M:MemS) (k:Nat) (T F:HL) (hb:(tb,.lit (Stp.l t mb) 140 (0,0)) ∈ F) (hS:SetIn F t.S) (hM:MemH mb M k T) (hT:∀ x ∈ T,x ∈ F) (hi:0 <= i /\ i < t.S.nb):Sp Tryz.prog 89 #[vP tb 0,vI i] [] F (λ u H'=>u=.agg #[vI ((aq t.S M i).px),vI ((aq t.S M i).py),vI ((aq t.S M i).vx),vI ((aq t.S M i).vy),vI ((aq t.S M i).inv)] /\ H'=[]):=by
 have hp:=hS.pl
 have hn:=hS.nb
 have hr:=hS.room
 refine Sp.run Tryz.func89 rfl (mc hb (mc hS.blk mn)) (A:=[]) (Ts:=[]) rfl λ w0=>?_
 refine ae 12 [.ro 0,.ro 0,.ro 0,.ro 0,.ro 0,.ro 0,.ro 0,.ro 0,.ro 0,.ro 0,.ro 0,.ro 0,.ro 0,.ro 0,.ro 0,.ro 0] λ n1=>aj (cu t.S i _ hS.toSetN) ?_
 have hb2:=cr hS.toSetN i
 refine ae 4 [] λ _=>RN.draw [41] []<|aJ [] [0,4,7,11,15,19,22,26,30,35,1,5,8,12,16,20,23,27,31,2,9,17,24,32,3,10,18,25,33,34,36,37,38,39] [.nw,.nw,.nw,.nw,.ro 0,.ro 0,.ro 0,.ro 0,.ro 0,.ix ((i).toNat),.rorow 1 (t.S.bo+((i).toNat)) 6] [((t.S.bo * 9+((i).toNat) * 9)+6)=(t.S.bo+((i).toNat)) * 9+6 /\ (t.S.bo+((i).toNat)) < t.S.bR,i=(((i).toNat:Nat):Int) /\ (i).toNat < t.S.nb,bq ((af t.S i)+3),bq ((af t.S i)+2),bq ((af t.S i)+1),bq ((af t.S i)+0)]<|ar [] 6 (λ X_=>(az ((af t.S i)+0) hM (λ x hx=>List.mem_append_right _ (List.mem_append_right _ (hT x hx)))))<|ar [] 13 (λ X_=>(az ((af t.S i)+1) hM (λ x hx=>List.mem_append_right _ (List.mem_append_right _ (hT x hx)))))<|ag [] [14] []<|ar [] 21 (λ X_=>(az ((af t.S i)+2) hM (λ x hx=>List.mem_append_right _ (List.mem_append_right _ (hT x hx)))))<|ar [] 28 (λ X_=>(az ((af t.S i)+3) hM (λ x hx=>List.mem_append_right _ (List.mem_append_right _ (hT x hx)))))<|ag [] [29,40] []<|RD.one 41 (RDO.ev [] (ow 0 5) λ _=>?_)
 refine RD.fin<|ae 1 [] λ _=>?_
 exact RN.ret (ow 0 5) [] [] ⟨rfl,rfl⟩
theorem bG (t:Stp) (ph:Int) (j:Int) (tb mb:Nat) (M:MemS) (k:Nat) (T F:HL) (hM:MemH mb M (k+3) T) (hS:SetIn F t.S) :Sp Tryz.prog 85 #[vP tb 0,vI ph,vI j] (ap [(tb,.lit (Stp.l t mb) 140 (0,0))] [T]) F (λ u H'=>∃ x,H'=ap [(tb,.lit (Stp.l t mb) 140 (0,0))] [x] /\ (MemH mb (aL t ph j M) k x)):=by
 have hp:=hS.pl
 have hn:=hS.nb
 have hr:=hS.room
 refine Sp.run Tryz.func85 rfl (mc hS.blk mn) (A:=[(tb,.lit (Stp.l t mb) 140 (0,0))]) (Ts:=[T]) rfl λ w0=>?_
 refine ae 7 [.own 0] λ _=>RN.ct [] [0] (ai 1 ph hM) ?_
 rintro _ T1 hM2
 refine ae 8 [.own 0] λ _=>RN.ct [] [0] (ai 2 0 hM2) ?_
 rintro _ T3 hM4
 refine ae 8 [.own 0] λ _=>RN.ct [] [0] (ai 3 j hM4) ?_
 rintro _ T5 hM6
 refine ae 1 [] λ _=>RN.ret [] [0] [0] (v:=.tuple #[]) (H':=(ap [(tb,.lit (Stp.l t mb) 140 (0,0))] [T5])) ?_
 refine ⟨T5,rfl,?_⟩
 have e:(aL t ph j M)=(((M.set 1 ph).set 2 0).set 3 j):=by
  first | (simp only [aL];done) | (simp only [aL];rfl) | rfl
 rw [e]
 exact hM6.weak (by omega)
theorem lG (t:Stp) (i:Int) (m:Mot) (tb mb:Nat) (M:MemS) (k:Nat) (T F:HL) (hM:MemH mb M (k+4) T) (hS:SetIn F t.S) :Sp Tryz.prog 157 #[vP tb 0,vI i,.agg #[vI m.px,vI m.py,vI m.vx,vI m.vy,vI m.inv]] (ap [(tb,.lit (Stp.l t mb) 140 (0,0))] [T]) F (λ u H'=>∃ x,H'=ap [(tb,.lit (Stp.l t mb) 140 (0,0))] [x] /\ (MemH mb (dC t i m M) k x)):=by
 have hp:=hS.pl
 have hn:=hS.nb
 have hr:=hS.room
 refine Sp.run Tryz.func157 rfl (mc hS.blk mn) (A:=[(tb,.lit (Stp.l t mb) 140 (0,0))]) (Ts:=[T]) rfl λ w0=>?_
 refine ae 12 (ow 1 16) λ n1=>aj (cu t.S i _ hS.toSetN) ?_
 have hb2:=cr hS.toSetN i
 refine ae 4 [] λ _=>RN.draw [9] []<|aJ [] [0,4,6,1,5,7,2,8,3] [.nw,.own 0,.own 1] [bq ((af t.S i)+0)]<|RD.one 9 (RDO.ct [] [] [0] (ai ((af t.S i)+0) m.px hM) ?_)
 rintro _ T3 hM4
 refine RD.fin<|ae 2 [] λ _=>RN.draw [9] []<|aJ [] [0,4,6,1,5,7,2,8,3] [.nw,.own 0,.own 1] [bq ((af t.S i)+1)]<|RD.one 9 (RDO.ct [] [] [0] (ai ((af t.S i)+1) m.py hM4) ?_)
 rintro _ T5 hM6
 refine RD.fin<|ae 2 [] λ _=>RN.draw [9] []<|aJ [] [0,4,6,1,5,7,2,8,3] [.nw,.own 0,.own 1] [bq ((af t.S i)+2)]<|RD.one 9 (RDO.ct [] [] [0] (ai ((af t.S i)+2) m.vx hM6) ?_)
 rintro _ T7 hM8
 refine RD.fin<|ae 1 [] λ _=>RN.draw [9] []<|aJ [] [0,4,6,1,5,7,2,8,3] [.nw,.own 0,.own 1] [bq ((af t.S i)+3)]<|RD.one 9 (RDO.ct [] [] [0] (ai ((af t.S i)+3) m.vy hM8) ?_)
 rintro _ T9 hM10
 refine RD.fin<|RN.ret [] [1] [0] (v:=.tuple #[]) (H':=(ap [(tb,.lit (Stp.l t mb) 140 (0,0))] [T9])) ?_
 refine ⟨T9,rfl,?_⟩
 have e:(dC t i m M)=((((M.set ((af t.S i)+0) m.px).set ((af t.S i)+1) m.py).set ((af t.S i)+2) m.vx).set ((af t.S i)+3) m.vy):=by
  first | (simp only [dC];done) | (simp only [dC];rfl) | rfl
 rw [e]
 exact hM10.weak (by omega)
theorem rQ (t:Stp) (c:Int) (s:Int) (pos:Int) (lo:Int) (hi:Int) (tb mb:Nat) (M:MemS) (k:Nat) (T F:HL) (hM:MemH mb M (k+2) T) (hS:SetIn F t.S) :Sp Tryz.prog 160 #[vP tb 0,vI c,vI s,vI pos,vI lo,vI hi] (ap [(tb,.lit (Stp.l t mb) 140 (0,0))] [T]) F (λ u H'=>∃ x,H'=ap [(tb,.lit (Stp.l t mb) 140 (0,0))] [x] /\ (MemH mb (dS t c s pos lo hi M) k x)):=by
 have hp:=hS.pl
 have hn:=hS.nb
 have hr:=hS.room
 refine Sp.run Tryz.func160 rfl (mc hS.blk mn) (A:=[(tb,.lit (Stp.l t mb) 140 (0,0))]) (Ts:=[T]) rfl λ w0=>?_
 refine ae 5 [] λ _=>aj (cq pos lo hi  _)<|ae 11 [.own 0] λ _=>RN.ct [] [0] (ai c (aF pos lo hi) hM) ?_
 rintro _ T1 hM2
 refine ae 9 [] λ _=>RN.en (aF pos lo hi=pos) 26 (λ h3=>?_) λ h3=>?_
 ·refine ae 2 [] λ _=>RN.ret [] [0] [0] (v:=.tuple #[]) (H':=(ap [(tb,.lit (Stp.l t mb) 140 (0,0))] [T1])) ?_
  refine ⟨T1,rfl,?_⟩
  have e:(dS t c s pos lo hi M)=(M.set c (aF pos lo hi)):=by
   first | (simp only [dS,if_pos h3];done) | (simp only [dS,if_pos h3];rfl) | rfl
  rw [e]
  exact hM2.weak (by omega)
 ·refine ae 1 [] λ _=>RN.draw [20] []<|ag [] [0,4,5,9,11,1,6,12,2,7,13,3,8,14,15,18,19] [.own 0,.own 0,.own 0]<|ar [] 10 (λ X_=>(az s hM2 (aQ 0)))<|ar [] 16 (λ X_=>(mL ((M.set c (aF pos lo hi)).get s) t.S.rest  _))<|ag [] [17] []<|RD.one 20 (RDO.ct [] [] [0] (ai s (IntKind.i64.wrap (0 - (fL ((M.set c (aF pos lo hi)).get s) t.S.rest))) hM2) ?_)
  rintro _ T4 hM5
  refine RD.fin<|RN.ret [] [0] [0] (v:=.tuple #[]) (H':=(ap [(tb,.lit (Stp.l t mb) 140 (0,0))] [T4])) ?_
  refine ⟨T4,rfl,?_⟩
  have e:(dS t c s pos lo hi M)=((M.set c (aF pos lo hi)).set s (IntKind.i64.wrap (0 - (fL ((M.set c (aF pos lo hi)).get s) t.S.rest)))):=by
   first | (simp only [dS,if_neg h3];done) | (simp only [dS,if_neg h3];rfl) | rfl
  rw [e]
  exact hM5.weak (by omega)
theorem AZ (t:Stp)  (tb mb:Nat) (M:MemS) (k:Nat) (T F:HL) (hM:MemH mb M (k+8) T) (hS:SetIn F t.S) (hI:(t.ib,.rows 3 t.iR (kx t.ins) 151 (0,0)) ∈ F) (hir:t.io+t.ni <= t.iR /\ t.ni <= 1000000):Sp Tryz.prog 49 #[vP tb 0] (ap [(tb,.lit (Stp.l t mb) 140 (0,0))] [T]) F (λ u H'=>∃ x,H'=ap [(tb,.lit (Stp.l t mb) 140 (0,0))] [x] /\ (MemH mb (aO t M) k x)):=by
 have hp:=hS.pl
 have hn:=hS.nb
 have hr:=hS.room
 refine Sp.run Tryz.func49 rfl (mc hS.blk (mc hI mn)) (A:=[(tb,.lit (Stp.l t mb) 140 (0,0))]) (Ts:=[T]) rfl λ w0=>?_
 refine ae 10 [.own 0] λ _=>RN.em (t.i=0) 8 (λ h1=>?_) λ h1=>?_
 ·refine ae 2 [] λ _=>RN.draw [10] []<|ag [] [0,4,1,5,2,6,3,7,8,9] [.own 0,.own 0]<|RD.one 10 (RDO.ct [] [] [0] (ai 13 t.version hM) ?_)
  rintro _ T2 hM3
  refine RD.fin<|ae 6 [.own 0] λ _=>RN.ct [] [0] (ai 11 0 hM3) ?_
  rintro _ T4 hM5
  refine ae 4 [] λ _=>RN.draw [] []<|ag [] [0,4,1,5,2,6,3,7] (ow 0 17)<|ar [] 8 (λ X_=>(ga t.S t.i _ hS.toSetN)) ?_
  have hb6:=f9 hS.toSetN t.i
  refine ag [] [9] []<|RD.fin<|ae 2 [] λ _=>RN.draw [] []<|ag [] [0,1,2] []<|RD.em (ah t.S t.i >= 0) 36 (λ h7=>?_) λ h7=>?_
  ·refine ag [] [3,7,4,8,5,9,6,10,11,12,13] [.own 0,.own 0]<|RD.fin<|ae 1 [] λ _=>RN.em (t.i < (t.ni:Int)) 47 (λ h8=>?_) λ h8=>?_
   ·refine ae 2 [] λ _=>RN.draw [11] []<|aJ [] [0,4,1,5,2,6,3,7,8,9] [.own 0,.own 0,.ix ((t.i).toNat),.rorow 1 (t.io+((t.i).toNat)) 0,.rorow 1 (t.io+((t.i).toNat)) 1,.rorow 1 (t.io+((t.i).toNat)) 2] [((t.io * 3+((t.i).toNat) * 3)+2)=(t.io+((t.i).toNat)) * 3+2 /\ (t.io+((t.i).toNat)) < t.iR,((t.io * 3+((t.i).toNat) * 3)+1)=(t.io+((t.i).toNat)) * 3+1 /\ (t.io+((t.i).toNat)) < t.iR,(t.io * 3+((t.i).toNat) * 3)=(t.io+((t.i).toNat)) * 3+0 /\ (t.io+((t.i).toNat)) < t.iR,t.i=(((t.i).toNat:Nat):Int) /\ (t.i).toNat < t.ni]<|RD.one 10 (RDO.ev [] [] λ n9=>?_)
    refine RD.one 11 (RDO.ev [] [.own 0,.own 0,.own 0] λ _=>?_)
    refine RD.fin<|ae 2 [] λ _=>RN.draw [8] []<|aJ [] [0,4,6,1,5,7,2,3] [.nw,.own 0,.own 1] [bq ((ah t.S t.i)+0)]<|RD.one 8 (RDO.ct [] [] [0] (ai ((ah t.S t.i)+0) ((t.ins.getD (t.io+((t.i).toNat)) dI).dx) hM5) ?_)
    rintro _ T10 hM11
    refine RD.fin<|ae 2 [] λ _=>RN.draw [8] []<|aJ [] [0,4,6,1,5,7,2,3] [.nw,.own 0,.own 1] [bq ((ah t.S t.i)+1)]<|RD.one 8 (RDO.ct [] [] [0] (ai ((ah t.S t.i)+1) ((t.ins.getD (t.io+((t.i).toNat)) dI).dy) hM11) ?_)
    rintro _ T12 hM13
    refine RD.fin<|ae 1 [] λ _=>RN.draw [8] []<|aJ [] [0,4,6,1,5,7,2,3] [.nw,.own 0,.own 1] [bq ((ah t.S t.i)+2)]<|RD.one 8 (RDO.ct [] [] [0] (ai ((ah t.S t.i)+2) ((t.ins.getD (t.io+((t.i).toNat)) dI).act) hM13) ?_)
    rintro _ T14 hM15
    refine RD.fin<|ae 2 [] λ _=>RN.draw [] []<|ag [] [0,5,1,6,2,7,3,8,4,9,10] [.own 1,.own 1]<|RD.fin<|ae 1 [] λ _=>RN.em (IntKind.i64.wrap (t.i+1) < t.S.players) 95 (λ h16=>?_) λ h16=>?_
    ·refine ae 1 [] λ _=>RN.draw [11] []<|ag [] [0,4,1,5,2,6,3,7,8,9,10] [.own 1,.own 1]<|RD.one 11 (RDO.ct [] [] [0] (ai 2 (IntKind.i64.wrap (t.i+1)) hM15) ?_)
     rintro _ T17 hM18
     refine RD.fin<|RN.ret [] [1] [0] (v:=.tuple #[]) (H':=(ap [(tb,.lit (Stp.l t mb) 140 (0,0))] [T17])) ?_
     refine ⟨T17,rfl,?_⟩
     have e:(aO t M)=((((((M.set 13 t.version).set 11 0).set ((ah t.S t.i)+0) ((t.ins.getD (t.io+((t.i).toNat)) dI).dx)).set ((ah t.S t.i)+1) ((t.ins.getD (t.io+((t.i).toNat)) dI).dy)).set ((ah t.S t.i)+2) ((t.ins.getD (t.io+((t.i).toNat)) dI).act)).set 2 (IntKind.i64.wrap (t.i+1))):=by
      first | (simp only [aO,bd,bn,bT,Stp.inp,if_pos h1,if_pos h7,if_pos h8,if_pos h16];done) | (simp only [aO,bd,bn,bT,Stp.inp,if_pos h1,if_pos h7,if_pos h8,if_pos h16];rfl) | rfl
     rw [e]
     exact hM18.weak (by omega)
    ·refine ae 3 [] λ _=>RN.ct [1] [0] (bG t 1 0 tb mb (((((M.set 13 t.version).set 11 0).set ((ah t.S t.i)+0) ((t.ins.getD (t.io+((t.i).toNat)) dI).dx)).set ((ah t.S t.i)+1) ((t.ins.getD (t.io+((t.i).toNat)) dI).dy)).set ((ah t.S t.i)+2) ((t.ins.getD (t.io+((t.i).toNat)) dI).act)) k T14 _ hM15 hS.up ) ?_
     rintro _ T19 hM20
     refine ae 1 [] λ _=>RN.ret [] [0] [0] (v:=.tuple #[]) (H':=(ap [(tb,.lit (Stp.l t mb) 140 (0,0))] [T19])) ?_
     refine ⟨T19,rfl,?_⟩
     have e:(aO t M)=(aL t 1 0 (((((M.set 13 t.version).set 11 0).set ((ah t.S t.i)+0) ((t.ins.getD (t.io+((t.i).toNat)) dI).dx)).set ((ah t.S t.i)+1) ((t.ins.getD (t.io+((t.i).toNat)) dI).dy)).set ((ah t.S t.i)+2) ((t.ins.getD (t.io+((t.i).toNat)) dI).act))):=by
      first | (simp only [aO,bd,bn,bT,Stp.inp,if_pos h1,if_pos h7,if_pos h8,if_neg h16];done) | (simp only [aO,bd,bn,bT,Stp.inp,if_pos h1,if_pos h7,if_pos h8,if_neg h16];rfl) | rfl
     rw [e]
     exact hM20.weak (by omega)
   ·refine ae 4 [] λ _=>RN.draw [] []<|ag [] [0,5,1,6,2,7,3,8,4,9,10] [.own 0,.own 0]<|RD.fin<|ae 1 [] λ _=>RN.em (IntKind.i64.wrap (t.i+1) < t.S.players) 95 (λ h21=>?_) λ h21=>?_
    ·refine ae 1 [] λ _=>RN.draw [11] []<|ag [] [0,4,1,5,2,6,3,7,8,9,10] [.own 0,.own 0]<|RD.one 11 (RDO.ct [] [] [0] (ai 2 (IntKind.i64.wrap (t.i+1)) hM5) ?_)
     rintro _ T22 hM23
     refine RD.fin<|RN.ret [] [0] [0] (v:=.tuple #[]) (H':=(ap [(tb,.lit (Stp.l t mb) 140 (0,0))] [T22])) ?_
     refine ⟨T22,rfl,?_⟩
     have e:(aO t M)=(((M.set 13 t.version).set 11 0).set 2 (IntKind.i64.wrap (t.i+1))):=by
      first | (simp only [aO,bd,bn,bT,Stp.inp,if_pos h1,if_pos h7,if_neg h8,if_pos h21];done) | (simp only [aO,bd,bn,bT,Stp.inp,if_pos h1,if_pos h7,if_neg h8,if_pos h21];rfl) | rfl
     rw [e]
     exact hM23.weak (by omega)
    ·refine ae 3 [] λ _=>RN.ct [0] [0] (bG t 1 0 tb mb ((M.set 13 t.version).set 11 0) (k+3) T4 _ hM5 hS.up ) ?_
     rintro _ T24 hM25
     refine ae 1 [] λ _=>RN.ret [] [0] [0] (v:=.tuple #[]) (H':=(ap [(tb,.lit (Stp.l t mb) 140 (0,0))] [T24])) ?_
     refine ⟨T24,rfl,?_⟩
     have e:(aO t M)=(aL t 1 0 ((M.set 13 t.version).set 11 0)):=by
      first | (simp only [aO,bd,bn,bT,Stp.inp,if_pos h1,if_pos h7,if_neg h8,if_neg h21];done) | (simp only [aO,bd,bn,bT,Stp.inp,if_pos h1,if_pos h7,if_neg h8,if_neg h21];rfl) | rfl
     rw [e]
     exact hM25.weak (by omega)
  ·refine ag [] [3,7,4,8,5,9,6,10,11,12,13] []<|RD.fin<|ae 5 [] λ _=>RN.draw [] []<|ag [] [0,5,1,6,2,7,3,8,4,9,10] [.own 0,.own 0]<|RD.fin<|ae 1 [] λ _=>RN.em (IntKind.i64.wrap (t.i+1) < t.S.players) 95 (λ h26=>?_) λ h26=>?_
   ·refine ae 1 [] λ _=>RN.draw [11] []<|ag [] [0,4,1,5,2,6,3,7,8,9,10] [.own 0,.own 0]<|RD.one 11 (RDO.ct [] [] [0] (ai 2 (IntKind.i64.wrap (t.i+1)) hM5) ?_)
    rintro _ T27 hM28
    refine RD.fin<|RN.ret [] [0] [0] (v:=.tuple #[]) (H':=(ap [(tb,.lit (Stp.l t mb) 140 (0,0))] [T27])) ?_
    refine ⟨T27,rfl,?_⟩
    have e:(aO t M)=(((M.set 13 t.version).set 11 0).set 2 (IntKind.i64.wrap (t.i+1))):=by
     first | (simp only [aO,bd,bn,bT,Stp.inp,if_pos h1,if_neg h7,if_pos h26];done) | (simp only [aO,bd,bn,bT,Stp.inp,if_pos h1,if_neg h7,if_pos h26];rfl) | rfl
    rw [e]
    exact hM28.weak (by omega)
   ·refine ae 3 [] λ _=>RN.ct [0] [0] (bG t 1 0 tb mb ((M.set 13 t.version).set 11 0) (k+3) T4 _ hM5 hS.up ) ?_
    rintro _ T29 hM30
    refine ae 1 [] λ _=>RN.ret [] [0] [0] (v:=.tuple #[]) (H':=(ap [(tb,.lit (Stp.l t mb) 140 (0,0))] [T29])) ?_
    refine ⟨T29,rfl,?_⟩
    have e:(aO t M)=(aL t 1 0 ((M.set 13 t.version).set 11 0)):=by
     first | (simp only [aO,bd,bn,bT,Stp.inp,if_pos h1,if_neg h7,if_neg h26];done) | (simp only [aO,bd,bn,bT,Stp.inp,if_pos h1,if_neg h7,if_neg h26];rfl) | rfl
    rw [e]
    exact hM30.weak (by omega)
 ·refine ae 5 [] λ _=>RN.draw [] []<|ag [] [0,4,1,5,2,6,3,7] (ow 0 17)<|ar [] 8 (λ X_=>(ga t.S t.i _ hS.toSetN)) ?_
  have hb31:=f9 hS.toSetN t.i
  refine ag [] [9] []<|RD.fin<|ae 2 [] λ _=>RN.draw [] []<|ag [] [0,1,2] []<|RD.em (ah t.S t.i >= 0) 36 (λ h32=>?_) λ h32=>?_
  ·refine ag [] [3,7,4,8,5,9,6,10,11,12,13] [.own 0,.own 0]<|RD.fin<|ae 1 [] λ _=>RN.em (t.i < (t.ni:Int)) 47 (λ h33=>?_) λ h33=>?_
   ·refine ae 2 [] λ _=>RN.draw [11] []<|aJ [] [0,4,1,5,2,6,3,7,8,9] [.own 0,.own 0,.ix ((t.i).toNat),.rorow 1 (t.io+((t.i).toNat)) 0,.rorow 1 (t.io+((t.i).toNat)) 1,.rorow 1 (t.io+((t.i).toNat)) 2] [((t.io * 3+((t.i).toNat) * 3)+2)=(t.io+((t.i).toNat)) * 3+2 /\ (t.io+((t.i).toNat)) < t.iR,((t.io * 3+((t.i).toNat) * 3)+1)=(t.io+((t.i).toNat)) * 3+1 /\ (t.io+((t.i).toNat)) < t.iR,(t.io * 3+((t.i).toNat) * 3)=(t.io+((t.i).toNat)) * 3+0 /\ (t.io+((t.i).toNat)) < t.iR,t.i=(((t.i).toNat:Nat):Int) /\ (t.i).toNat < t.ni]<|RD.one 10 (RDO.ev [] [] λ n34=>?_)
    refine RD.one 11 (RDO.ev [] [.own 0,.own 0,.own 0] λ _=>?_)
    refine RD.fin<|ae 2 [] λ _=>RN.draw [8] []<|aJ [] [0,4,6,1,5,7,2,3] [.nw,.own 0,.own 1] [bq ((ah t.S t.i)+0)]<|RD.one 8 (RDO.ct [] [] [0] (ai ((ah t.S t.i)+0) ((t.ins.getD (t.io+((t.i).toNat)) dI).dx) hM) ?_)
    rintro _ T35 hM36
    refine RD.fin<|ae 2 [] λ _=>RN.draw [8] []<|aJ [] [0,4,6,1,5,7,2,3] [.nw,.own 0,.own 1] [bq ((ah t.S t.i)+1)]<|RD.one 8 (RDO.ct [] [] [0] (ai ((ah t.S t.i)+1) ((t.ins.getD (t.io+((t.i).toNat)) dI).dy) hM36) ?_)
    rintro _ T37 hM38
    refine RD.fin<|ae 1 [] λ _=>RN.draw [8] []<|aJ [] [0,4,6,1,5,7,2,3] [.nw,.own 0,.own 1] [bq ((ah t.S t.i)+2)]<|RD.one 8 (RDO.ct [] [] [0] (ai ((ah t.S t.i)+2) ((t.ins.getD (t.io+((t.i).toNat)) dI).act) hM38) ?_)
    rintro _ T39 hM40
    refine RD.fin<|ae 2 [] λ _=>RN.draw [] []<|ag [] [0,5,1,6,2,7,3,8,4,9,10] [.own 1,.own 1]<|RD.fin<|ae 1 [] λ _=>RN.em (IntKind.i64.wrap (t.i+1) < t.S.players) 95 (λ h41=>?_) λ h41=>?_
    ·refine ae 1 [] λ _=>RN.draw [11] []<|ag [] [0,4,1,5,2,6,3,7,8,9,10] [.own 1,.own 1]<|RD.one 11 (RDO.ct [] [] [0] (ai 2 (IntKind.i64.wrap (t.i+1)) hM40) ?_)
     rintro _ T42 hM43
     refine RD.fin<|RN.ret [] [1] [0] (v:=.tuple #[]) (H':=(ap [(tb,.lit (Stp.l t mb) 140 (0,0))] [T42])) ?_
     refine ⟨T42,rfl,?_⟩
     have e:(aO t M)=((((M.set ((ah t.S t.i)+0) ((t.ins.getD (t.io+((t.i).toNat)) dI).dx)).set ((ah t.S t.i)+1) ((t.ins.getD (t.io+((t.i).toNat)) dI).dy)).set ((ah t.S t.i)+2) ((t.ins.getD (t.io+((t.i).toNat)) dI).act)).set 2 (IntKind.i64.wrap (t.i+1))):=by
      first | (simp only [aO,bd,bn,bT,Stp.inp,if_neg h1,if_pos h32,if_pos h33,if_pos h41];done) | (simp only [aO,bd,bn,bT,Stp.inp,if_neg h1,if_pos h32,if_pos h33,if_pos h41];rfl) | rfl
     rw [e]
     exact hM43.weak (by omega)
    ·refine ae 3 [] λ _=>RN.ct [1] [0] (bG t 1 0 tb mb (((M.set ((ah t.S t.i)+0) ((t.ins.getD (t.io+((t.i).toNat)) dI).dx)).set ((ah t.S t.i)+1) ((t.ins.getD (t.io+((t.i).toNat)) dI).dy)).set ((ah t.S t.i)+2) ((t.ins.getD (t.io+((t.i).toNat)) dI).act)) (k+2) T39 _ hM40 hS.up ) ?_
     rintro _ T44 hM45
     refine ae 1 [] λ _=>RN.ret [] [0] [0] (v:=.tuple #[]) (H':=(ap [(tb,.lit (Stp.l t mb) 140 (0,0))] [T44])) ?_
     refine ⟨T44,rfl,?_⟩
     have e:(aO t M)=(aL t 1 0 (((M.set ((ah t.S t.i)+0) ((t.ins.getD (t.io+((t.i).toNat)) dI).dx)).set ((ah t.S t.i)+1) ((t.ins.getD (t.io+((t.i).toNat)) dI).dy)).set ((ah t.S t.i)+2) ((t.ins.getD (t.io+((t.i).toNat)) dI).act))):=by
      first | (simp only [aO,bd,bn,bT,Stp.inp,if_neg h1,if_pos h32,if_pos h33,if_neg h41];done) | (simp only [aO,bd,bn,bT,Stp.inp,if_neg h1,if_pos h32,if_pos h33,if_neg h41];rfl) | rfl
     rw [e]
     exact hM45.weak (by omega)
   ·refine ae 4 [] λ _=>RN.draw [] []<|ag [] [0,5,1,6,2,7,3,8,4,9,10] [.own 0,.own 0]<|RD.fin<|ae 1 [] λ _=>RN.em (IntKind.i64.wrap (t.i+1) < t.S.players) 95 (λ h46=>?_) λ h46=>?_
    ·refine ae 1 [] λ _=>RN.draw [11] []<|ag [] [0,4,1,5,2,6,3,7,8,9,10] [.own 0,.own 0]<|RD.one 11 (RDO.ct [] [] [0] (ai 2 (IntKind.i64.wrap (t.i+1)) hM) ?_)
     rintro _ T47 hM48
     refine RD.fin<|RN.ret [] [0] [0] (v:=.tuple #[]) (H':=(ap [(tb,.lit (Stp.l t mb) 140 (0,0))] [T47])) ?_
     refine ⟨T47,rfl,?_⟩
     have e:(aO t M)=(M.set 2 (IntKind.i64.wrap (t.i+1))):=by
      first | (simp only [aO,bd,bn,bT,Stp.inp,if_neg h1,if_pos h32,if_neg h33,if_pos h46];done) | (simp only [aO,bd,bn,bT,Stp.inp,if_neg h1,if_pos h32,if_neg h33,if_pos h46];rfl) | rfl
     rw [e]
     exact hM48.weak (by omega)
    ·refine ae 3 [] λ _=>RN.ct [0] [0] (bG t 1 0 tb mb M (k+5) T _ hM hS.up ) ?_
     rintro _ T49 hM50
     refine ae 1 [] λ _=>RN.ret [] [0] [0] (v:=.tuple #[]) (H':=(ap [(tb,.lit (Stp.l t mb) 140 (0,0))] [T49])) ?_
     refine ⟨T49,rfl,?_⟩
     have e:(aO t M)=(aL t 1 0 M):=by
      first | (simp only [aO,bd,bn,bT,Stp.inp,if_neg h1,if_pos h32,if_neg h33,if_neg h46];done) | (simp only [aO,bd,bn,bT,Stp.inp,if_neg h1,if_pos h32,if_neg h33,if_neg h46];rfl) | rfl
     rw [e]
     exact hM50.weak (by omega)
  ·refine ag [] [3,7,4,8,5,9,6,10,11,12,13] []<|RD.fin<|ae 5 [] λ _=>RN.draw [] []<|ag [] [0,5,1,6,2,7,3,8,4,9,10] [.own 0,.own 0]<|RD.fin<|ae 1 [] λ _=>RN.em (IntKind.i64.wrap (t.i+1) < t.S.players) 95 (λ h51=>?_) λ h51=>?_
   ·refine ae 1 [] λ _=>RN.draw [11] []<|ag [] [0,4,1,5,2,6,3,7,8,9,10] [.own 0,.own 0]<|RD.one 11 (RDO.ct [] [] [0] (ai 2 (IntKind.i64.wrap (t.i+1)) hM) ?_)
    rintro _ T52 hM53
    refine RD.fin<|RN.ret [] [0] [0] (v:=.tuple #[]) (H':=(ap [(tb,.lit (Stp.l t mb) 140 (0,0))] [T52])) ?_
    refine ⟨T52,rfl,?_⟩
    have e:(aO t M)=(M.set 2 (IntKind.i64.wrap (t.i+1))):=by
     first | (simp only [aO,bd,bn,bT,Stp.inp,if_neg h1,if_neg h32,if_pos h51];done) | (simp only [aO,bd,bn,bT,Stp.inp,if_neg h1,if_neg h32,if_pos h51];rfl) | rfl
    rw [e]
    exact hM53.weak (by omega)
   ·refine ae 3 [] λ _=>RN.ct [0] [0] (bG t 1 0 tb mb M (k+5) T _ hM hS.up ) ?_
    rintro _ T54 hM55
    refine ae 1 [] λ _=>RN.ret [] [0] [0] (v:=.tuple #[]) (H':=(ap [(tb,.lit (Stp.l t mb) 140 (0,0))] [T54])) ?_
    refine ⟨T54,rfl,?_⟩
    have e:(aO t M)=(aL t 1 0 M):=by
     first | (simp only [aO,bd,bn,bT,Stp.inp,if_neg h1,if_neg h32,if_neg h51];done) | (simp only [aO,bd,bn,bT,Stp.inp,if_neg h1,if_neg h32,if_neg h51];rfl) | rfl
    rw [e]
    exact hM55.weak (by omega)
end Go.Proofs.YtghjbimijeinfaaGreatDoor
