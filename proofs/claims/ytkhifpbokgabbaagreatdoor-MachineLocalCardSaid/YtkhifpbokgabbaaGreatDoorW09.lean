import Derived.Test.YtkhifpbokgabbaaGreatDoorW08
set_option maxHeartbeats 4000000
set_option maxRecDepth 100000
set_option linter.unusedSimpArgs false
set_option linter.unusedVariables false
namespace Go.Proofs.YtkhifpbokgabbaaGreatDoor
open Go.RowKit
variable {K:Kd} {D:Int -> Prop}
structure Inp where (dx dy act:Int)
abbrev dI:Inp:=⟨0,0,0⟩
structure Ins where (op n:Int)
abbrev dIns:Ins:=⟨0,0⟩
structure Eff where (t i k v:Int)
abbrev eff0:Eff:=⟨0,0,0,0⟩
def inpE:Enc Inp:=⟨3,λ p k=>match k with | 0=>vI p.dx | 1=>vI p.dy | _=>vI p.act,dI⟩
noncomputable def inpEI:TypeInfo:=match Tryz.prog.info? 89 with | some i=>i | none=>⟨.bool,"",0,0,false,0,0,none,false,#[]⟩
noncomputable def inpEZ:Value:=match inpEI.zero with | some z=>z | none=>.bool false
theorem inpEOk:EncOk inpE Tryz.prog 89 inpEI inpEZ where
 info:=by kernel_rfl
 zero:=by kernel_rfl
 size:=by kernel_rfl
 zsize:=by kernel_rfl
 zcell:=λ k hk=>by
  have h:∀ k < 3,inpEZ.cells[k]?=some (inpE.cell inpE.dflt k):=by intro k hk;(iterate 3 (rcases k with _ | k;· kernel_rfl));omega
  exact h k hk
 one:=λ x k=>by unfold inpE;dsimp only;split <;> rfl
 bytes:=Nat.le_of_ble_eq_true (by kernel_rfl)
abbrev inrow (l:List Inp):Nat -> Nat -> Value:=rowE inpE l
structure Stp where
 S:Setup
 cA:Option Addr
 cn:Nat
 cc:Nat
 e0:Int
 e1:Int
 e2:Int
 version:Int
 ib:Nat
 io:Nat
 ni:Nat
 ic:Nat
 iR:Nat
 ins:List Inp
 i:Int
 j:Int
 ended:Bool
 f0:Int
 f1:Int
 f2:Int
 f3:Int
 emitted:Bool
 code:List Ins
def Stp.inp (t:Stp) (k:Nat):Inp:=t.ins.getD (t.io+k) dI
def movP (S:Setup) (k:Int):Prop:=(0 <= k /\ k < S.nb) /\ (S.body k.toNat).mot.inv > 0
instance (S:Setup) (k:Int):Decidable (movP S k):=inferInstanceAs (Decidable (_ /\ _))
theorem movP.has {S:Setup} {k:Int} (h:movP S k):0 <= k /\ k < S.nb:=h.1
def motM (S:Setup) (M:MemS) (k:Int):Mot:=⟨M.get (bodyAt S k+0),M.get (bodyAt S k+1),M.get (bodyAt S k+2),M.get (bodyAt S k+3),(S.body k.toNat).mot.inv⟩
def beginM (t:Stp) (ph j:Int) (M:MemS):MemS:=((M.set 1 ph).set 2 0).set 3 j
def setMotM (t:Stp) (k:Int) (m:Mot) (M:MemS):MemS:=(((M.set (bodyAt t.S k+0) m.px).set (bodyAt t.S k+1) m.py).set (bodyAt t.S k+2) m.vx).set (bodyAt t.S k+3) m.vy
def placeM (t:Stp) (c sp pos lo hi:Int) (M:MemS):MemS:=if clampI pos lo hi=pos then M.set c (clampI pos lo hi) else (M.set c (clampI pos lo hi)).set sp (w64 (0 - mulI ((M.set c (clampI pos lo hi)).get sp) t.S.rest))
def inputA (t:Stp) (M:MemS):MemS:=if t.i=0 then (M.set 13 t.version).set 11 0 else M
def inputB (t:Stp) (M:MemS):MemS:=if playerAt t.S t.i >= 0 then if t.i < t.ni then ((M.set (playerAt t.S t.i+0) (t.inp t.i.toNat).dx).set (playerAt t.S t.i+1) (t.inp t.i.toNat).dy).set (playerAt t.S t.i+2) (t.inp t.i.toNat).act else M else M
def inputC (t:Stp) (M:MemS):MemS:=if w64 (t.i+1) < t.S.players then M.set 2 (w64 (t.i+1)) else beginM t 1 0 M
def inputM (t:Stp) (M:MemS):MemS:=inputC t (inputB t (inputA t M))
abbrev Stp.l (K:Kd) (t:Stp) (mb:Nat):List Value:=[.iface K.tid (vP mb 0),vI t.S.players,vS t.S.bb (t.S.bo * 9) t.S.nb t.S.bc,vI t.S.box.x0,vI t.S.box.y0,vI t.S.box.x1,vI t.S.box.y1,.slice t.S.rA t.S.rn t.S.rc,.slice t.S.dA t.S.dn t.S.dc,vI t.S.fog,vI t.S.g.x,vI t.S.g.y,vI t.S.push,vI t.S.drag,vI t.S.rest,vI t.S.rounds,vI t.S.fuel,.slice t.cA t.cn t.cc,vI t.e0,vI t.e1,vI t.e2,vI t.version,vS t.ib (t.io * 3) t.ni t.ic,vI t.i,vI t.j,.bool t.ended,vI t.f0,vI t.f1,vI t.f2,vI t.f3,.bool t.emitted]
abbrev Stp.lp (K:Kd) (t:Stp) (mb:Nat):List Value:=[.iface K.tid (vP mb 0),vI t.S.players,vS t.S.bb (t.S.bo * 9) t.S.nb t.S.bc,vI t.S.box.x0,vI t.S.box.y0,vI t.S.box.x1,vI t.S.box.y1,.slice t.S.rA t.S.rn t.S.rc,.slice t.S.dA t.S.dn t.S.dc,vI t.S.fog,vI t.S.g.x,vI t.S.g.y,vI t.S.push,vI t.S.drag,vI t.S.rest,vI t.S.rounds,vI t.S.fuel,.slice t.cA t.cn t.cc,vI t.e0,vI t.e1,vI t.e2,vI t.version,vS t.ib (t.io * 3) t.ni t.ic,vI t.i,vI t.j,.bool t.ended]
theorem has_any (t:Stp) (k:Int) (tb mb:Nat) (F:HL) (hb:(tb,.lit (Stp.l K t mb) 94 (0,0)) ∈ F):Sp Tryz.prog 55 #[vP tb 0,vI k] [] F (λ u H'=>u=.bool (decide (0 <= k /\ k < t.S.nb)) /\ H'=[]):=by
 refine Sp.run Tryz.func55 rfl (mc hb mn) (A:=[]) (Ts:=[]) rfl λ w0=>?_
 refine RN.go 10 [] λ _=>RN.em (k >= 0) 7 (λ h1=>?_) λ h1=>?_
 ·refine RN.go 12 [.ro 0] λ _=>RN.ret [] [] [] (v:=.bool (decide (k < (t.S.nb:Int)))) (H':=[]) ?_
  exact ⟨by simp [*],rfl⟩
 ·refine RN.go 12 [] λ _=>RN.ret [] [] [] (v:=.bool false) (H':=[]) ?_
  exact ⟨by simp [*],rfl⟩
theorem movable_any (t:Stp) (k:Int) (tb mb:Nat) (F:HL) (hb:(tb,.lit (Stp.l K t mb) 94 (0,0)) ∈ F) (hS:SetIn F t.S):Sp Tryz.prog 48 #[vP tb 0,vI k] [] F (λ u H'=>u=.bool (decide (movP t.S k)) /\ H'=[]):=by
 have hn:=hS.nb
 have hr:=hS.room
 refine Sp.run Tryz.func48 rfl (mc hb (mc hS.blk mn)) (A:=[]) (Ts:=[]) rfl λ w0=>?_
 refine RN.go 9 [] λ _=>RN.cp (has_any (K:=K) t k tb mb _ (List.mem_append_right _ hb))<|RN.go 1 [] λ _=>RN.em (0 <= k /\ k < t.S.nb) 8 (λ h1=>?_) λ h1=>?_
 ·refine RN.goP 15 [.ro 0,.ix ((k).toNat),.rorow 1 (t.S.bo+((k).toNat)) 6] [((t.S.bo * 9+((k).toNat) * 9)+6)=(t.S.bo+((k).toNat)) * 9+6 /\ (t.S.bo+((k).toNat)) < t.S.bR,k=(((k).toNat:Nat):Int) /\ (k).toNat < t.S.nb] λ _=>RN.ret [] [] [] (v:=.bool (decide ((t.S.bods.getD (t.S.bo+((k).toNat)) dB).mot.inv > 0))) (H':=[]) ?_
  refine ⟨?_,rfl⟩
  simp [movP,Setup.body, *]
 ·refine RN.go 15 [] λ _=>RN.ret [] [] [] (v:=.bool false) (H':=[]) ?_
  refine ⟨?_,rfl⟩
  simp [movP,Setup.body, *]
theorem motion_any (t:Stp) (i:Int) (tb mb:Nat) (M:MemS) (k:Nat) (T F:HL) (hb:(tb,.lit (Stp.l K t mb) 94 (0,0)) ∈ F) (hS:SetIn F t.S) (hM:MemK K D mb M k T) (hT:∀ x ∈ T,x ∈ F) (hi:0 <= i /\ i < t.S.nb) (hdb:∀ c:Int,0 <= c -> c < 8 -> D (bodyAt t.S i+c)):Sp Tryz.prog 49 #[vP tb 0,vI i] [] F (λ u H'=>u=.agg #[vI ((motM t.S M i).px),vI ((motM t.S M i).py),vI ((motM t.S M i).vx),vI ((motM t.S M i).vy),vI ((motM t.S M i).inv)] /\ H'=[]):=by
 have hp:=hS.pl
 have hn:=hS.nb
 have hr:=hS.room
 refine Sp.run Tryz.func49 rfl (mc hb (mc hS.blk mn)) (A:=[]) (Ts:=[]) rfl λ w0=>?_
 refine RN.go 12 [.ro 0,.ro 0,.ro 0,.ro 0,.ro 0,.ro 0,.ro 0,.ro 0,.ro 0,.ro 0,.ro 0,.ro 0,.ro 0,.ro 0,.ro 0,.ro 0] λ n1=>RN.cp (lbody_any t.S i _ hS.toSetN) ?_
 have hb2:=bodyAt_bd hS.toSetN i
 refine RN.go 4 [] λ _=>RN.draw [41] []<|RD.goP [] [0,4,7,11,15,19,22,26,30,35,1,5,8,12,16,20,23,27,31,2,9,17,24,32,3,10,18,25,33,34,36,37,38,39] [.nw,.nw,.nw,.nw,.ro 0,.ro 0,.ro 0,.ro 0,.ro 0,.ix ((i).toNat),.rorow 1 (t.S.bo+((i).toNat)) 6] [((t.S.bo * 9+((i).toNat) * 9)+6)=(t.S.bo+((i).toNat)) * 9+6 /\ (t.S.bo+((i).toNat)) < t.S.bR,i=(((i).toNat:Nat):Int) /\ (i).toNat < t.S.nb,I64 ((bodyAt t.S i)+3),I64 ((bodyAt t.S i)+2),I64 ((bodyAt t.S i)+1),I64 ((bodyAt t.S i)+0)]<|RD.cpK [] 6 (λ X_=>(get_any ((bodyAt t.S i)+0) hM (hdb 0 (by decide) (by decide)) (λ x hx=>List.mem_append_right _ (List.mem_append_right _ (hT x hx)))))<|RD.cpK [] 13 (λ X_=>(get_any ((bodyAt t.S i)+1) hM (hdb 1 (by decide) (by decide)) (λ x hx=>List.mem_append_right _ (List.mem_append_right _ (hT x hx)))))<|RD.go [] [14] []<|RD.cpK [] 21 (λ X_=>(get_any ((bodyAt t.S i)+2) hM (hdb 2 (by decide) (by decide)) (λ x hx=>List.mem_append_right _ (List.mem_append_right _ (hT x hx)))))<|RD.cpK [] 28 (λ X_=>(get_any ((bodyAt t.S i)+3) hM (hdb 3 (by decide) (by decide)) (λ x hx=>List.mem_append_right _ (List.mem_append_right _ (hT x hx)))))<|RD.go [] [29,40] []<|RD.one 41 (RDO.ev [] (ow 0 5) λ _=>?_)
 refine RD.fin<|RN.go 1 [] λ _=>?_
 exact RN.ret (ow 0 5) [] [] ⟨rfl,rfl⟩
theorem begin_any (t:Stp) (ph:Int) (j:Int) (tb mb:Nat) (M:MemS) (k:Nat) (T F:HL) (hM:MemK K D mb M (k+3) T) (hS:SetIn F t.S)  (hl:DLo D) :Sp Tryz.prog 45 #[vP tb 0,vI ph,vI j] (ap [(tb,.lit (Stp.l K t mb) 94 (0,0))] [T]) F (λ u H'=>∃ x,H'=ap [(tb,.lit (Stp.l K t mb) 94 (0,0))] [x] /\ (MemK K D mb (beginM t ph j M) k x)):=by
 have hp:=hS.pl
 have hn:=hS.nb
 have hr:=hS.room
 refine Sp.run Tryz.func45 rfl (mc hS.blk mn) (A:=[(tb,.lit (Stp.l K t mb) 94 (0,0))]) (Ts:=[T]) rfl λ w0=>?_
 refine RN.go 7 [.own 0] λ _=>RN.ctK [] [0] (set_any 1 ph hM (hl 1 (by decide) (by decide))) ?_
 rintro _ T1 hM2
 refine RN.go 8 [.own 0] λ _=>RN.ctK [] [0] (set_any 2 0 hM2 (hl 2 (by decide) (by decide))) ?_
 rintro _ T3 hM4
 refine RN.go 8 [.own 0] λ _=>RN.ctK [] [0] (set_any 3 j hM4 (hl 3 (by decide) (by decide))) ?_
 rintro _ T5 hM6
 refine RN.go 1 [] λ _=>RN.ret [] [0] [0] (v:=.tuple #[]) (H':=(ap [(tb,.lit (Stp.l K t mb) 94 (0,0))] [T5])) ?_
 refine ⟨T5,rfl,?_⟩
 have e:(beginM t ph j M)=(((M.set 1 ph).set 2 0).set 3 j):=by
  first | (simp only [beginM];done) | (simp only [beginM];rfl) | rfl
 rw [e]
 exact hM6.weak (by omega)
theorem setMotion_any (t:Stp) (i:Int) (m:Mot) (tb mb:Nat) (M:MemS) (k:Nat) (T F:HL) (hM:MemK K D mb M (k+4) T) (hS:SetIn F t.S)   (hdb:∀ c:Int,0 <= c -> c < 8 -> D (bodyAt t.S i+c)):Sp Tryz.prog 87 #[vP tb 0,vI i,.agg #[vI m.px,vI m.py,vI m.vx,vI m.vy,vI m.inv]] (ap [(tb,.lit (Stp.l K t mb) 94 (0,0))] [T]) F (λ u H'=>∃ x,H'=ap [(tb,.lit (Stp.l K t mb) 94 (0,0))] [x] /\ (MemK K D mb (setMotM t i m M) k x)):=by
 have hp:=hS.pl
 have hn:=hS.nb
 have hr:=hS.room
 refine Sp.run Tryz.func87 rfl (mc hS.blk mn) (A:=[(tb,.lit (Stp.l K t mb) 94 (0,0))]) (Ts:=[T]) rfl λ w0=>?_
 refine RN.go 12 (ow 1 16) λ n1=>RN.cp (lbody_any t.S i _ hS.toSetN) ?_
 have hb2:=bodyAt_bd hS.toSetN i
 refine RN.go 4 [] λ _=>RN.draw [9] []<|RD.goP [] [0,4,6,1,5,7,2,8,3] [.nw,.own 0,.own 1] [I64 ((bodyAt t.S i)+0)]<|RD.one 9 (RDO.ctK [] [] [0] (set_any ((bodyAt t.S i)+0) m.px hM (hdb 0 (by decide) (by decide))) ?_)
 rintro _ T3 hM4
 refine RD.fin<|RN.go 2 [] λ _=>RN.draw [9] []<|RD.goP [] [0,4,6,1,5,7,2,8,3] [.nw,.own 0,.own 1] [I64 ((bodyAt t.S i)+1)]<|RD.one 9 (RDO.ctK [] [] [0] (set_any ((bodyAt t.S i)+1) m.py hM4 (hdb 1 (by decide) (by decide))) ?_)
 rintro _ T5 hM6
 refine RD.fin<|RN.go 2 [] λ _=>RN.draw [9] []<|RD.goP [] [0,4,6,1,5,7,2,8,3] [.nw,.own 0,.own 1] [I64 ((bodyAt t.S i)+2)]<|RD.one 9 (RDO.ctK [] [] [0] (set_any ((bodyAt t.S i)+2) m.vx hM6 (hdb 2 (by decide) (by decide))) ?_)
 rintro _ T7 hM8
 refine RD.fin<|RN.go 1 [] λ _=>RN.draw [9] []<|RD.goP [] [0,4,6,1,5,7,2,8,3] [.nw,.own 0,.own 1] [I64 ((bodyAt t.S i)+3)]<|RD.one 9 (RDO.ctK [] [] [0] (set_any ((bodyAt t.S i)+3) m.vy hM8 (hdb 3 (by decide) (by decide))) ?_)
 rintro _ T9 hM10
 refine RD.fin<|RN.ret [] [1] [0] (v:=.tuple #[]) (H':=(ap [(tb,.lit (Stp.l K t mb) 94 (0,0))] [T9])) ?_
 refine ⟨T9,rfl,?_⟩
 have e:(setMotM t i m M)=((((M.set ((bodyAt t.S i)+0) m.px).set ((bodyAt t.S i)+1) m.py).set ((bodyAt t.S i)+2) m.vx).set ((bodyAt t.S i)+3) m.vy):=by
  first | (simp only [setMotM];done) | (simp only [setMotM];rfl) | rfl
 rw [e]
 exact hM10.weak (by omega)
theorem place_any (t:Stp) (c:Int) (s:Int) (pos:Int) (lo:Int) (hi:Int) (tb mb:Nat) (M:MemS) (k:Nat) (T F:HL) (hM:MemK K D mb M (k+2) T) (hS:SetIn F t.S)   (hdc:D c) (hds:D s):Sp Tryz.prog 90 #[vP tb 0,vI c,vI s,vI pos,vI lo,vI hi] (ap [(tb,.lit (Stp.l K t mb) 94 (0,0))] [T]) F (λ u H'=>∃ x,H'=ap [(tb,.lit (Stp.l K t mb) 94 (0,0))] [x] /\ (MemK K D mb (placeM t c s pos lo hi M) k x)):=by
 have hp:=hS.pl
 have hn:=hS.nb
 have hr:=hS.room
 refine Sp.run Tryz.func90 rfl (mc hS.blk mn) (A:=[(tb,.lit (Stp.l K t mb) 94 (0,0))]) (Ts:=[T]) rfl λ w0=>?_
 refine RN.go 5 [] λ _=>RN.cp (clamp_any pos lo hi  _)<|RN.go 11 [.own 0] λ _=>RN.ctK [] [0] (set_any c (clampI pos lo hi) hM hdc) ?_
 rintro _ T1 hM2
 refine RN.go 9 [] λ _=>RN.en (clampI pos lo hi=pos) 26 (λ h3=>?_) λ h3=>?_
 ·refine RN.go 2 [] λ _=>RN.ret [] [0] [0] (v:=.tuple #[]) (H':=(ap [(tb,.lit (Stp.l K t mb) 94 (0,0))] [T1])) ?_
  refine ⟨T1,rfl,?_⟩
  have e:(placeM t c s pos lo hi M)=(M.set c (clampI pos lo hi)):=by
   first | (simp only [placeM,if_pos h3];done) | (simp only [placeM,if_pos h3];rfl) | rfl
  rw [e]
  exact hM2.weak (by omega)
 ·refine RN.go 1 [] λ _=>RN.draw [20] []<|RD.go [] [0,4,5,9,11,1,6,12,2,7,13,3,8,14,15,18,19] [.own 0,.own 0,.own 0]<|RD.cpK [] 10 (λ X_=>(get_any s hM2 hds (sub_apX 0)))<|RD.cp [] 16 (λ X_=>(mul_any ((M.set c (clampI pos lo hi)).get s) t.S.rest  _))<|RD.go [] [17] []<|RD.one 20 (RDO.ctK [] [] [0] (set_any s (IntKind.i64.wrap (0 - (mulI ((M.set c (clampI pos lo hi)).get s) t.S.rest))) hM2 hds) ?_)
  rintro _ T4 hM5
  refine RD.fin<|RN.ret [] [0] [0] (v:=.tuple #[]) (H':=(ap [(tb,.lit (Stp.l K t mb) 94 (0,0))] [T4])) ?_
  refine ⟨T4,rfl,?_⟩
  have e:(placeM t c s pos lo hi M)=((M.set c (clampI pos lo hi)).set s (IntKind.i64.wrap (0 - (mulI ((M.set c (clampI pos lo hi)).get s) t.S.rest)))):=by
   first | (simp only [placeM,if_neg h3];done) | (simp only [placeM,if_neg h3];rfl) | rfl
  rw [e]
  exact hM5.weak (by omega)
theorem input_any (t:Stp)  (tb mb:Nat) (M:MemS) (k:Nat) (T F:HL) (hM:MemK K D mb M (k+8) T) (hS:SetIn F t.S) (hI:(t.ib,.rows 3 t.iR (inrow t.ins) 89 (0,0)) ∈ F) (hir:t.io+t.ni <= t.iR /\ t.ni <= 1000000) (hl:DLo D) (hpl:DPl D t.S t.i) :Sp Tryz.prog 25 #[vP tb 0] (ap [(tb,.lit (Stp.l K t mb) 94 (0,0))] [T]) F (λ u H'=>∃ x,H'=ap [(tb,.lit (Stp.l K t mb) 94 (0,0))] [x] /\ (MemK K D mb (inputM t M) k x)):=by
 have hp:=hS.pl
 have hn:=hS.nb
 have hr:=hS.room
 refine Sp.run Tryz.func25 rfl (mc hS.blk (mc hI mn)) (A:=[(tb,.lit (Stp.l K t mb) 94 (0,0))]) (Ts:=[T]) rfl λ w0=>?_
 refine RN.go 10 [.own 0] λ _=>RN.em (t.i=0) 8 (λ h1=>?_) λ h1=>?_
 ·refine RN.go 2 [] λ _=>RN.draw [10] []<|RD.go [] [0,4,1,5,2,6,3,7,8,9] [.own 0,.own 0]<|RD.one 10 (RDO.ctK [] [] [0] (set_any 13 t.version hM (hl 13 (by decide) (by decide))) ?_)
  rintro _ T2 hM3
  refine RD.fin<|RN.go 6 [.own 0] λ _=>RN.ctK [] [0] (set_any 11 0 hM3 (hl 11 (by decide) (by decide))) ?_
  rintro _ T4 hM5
  refine RN.go 4 [] λ _=>RN.draw [] []<|RD.go [] [0,4,1,5,2,6,3,7] (ow 0 17)<|RD.cp [] 8 (λ X_=>(lplayer_any t.S t.i _ hS.toSetN)) ?_
  have hb6:=playerAt_bd hS.toSetN t.i
  refine RD.go [] [9] []<|RD.fin<|RN.go 2 [] λ _=>RN.draw [] []<|RD.go [] [0,1,2] []<|RD.em (playerAt t.S t.i >= 0) 36 (λ h7=>?_) λ h7=>?_
  ·refine RD.go [] [3,7,4,8,5,9,6,10,11,12,13] [.own 0,.own 0]<|RD.fin<|RN.go 1 [] λ _=>RN.em (t.i < (t.ni:Int)) 47 (λ h8=>?_) λ h8=>?_
   ·refine RN.go 2 [] λ _=>RN.draw [11] []<|RD.goP [] [0,4,1,5,2,6,3,7,8,9] [.own 0,.own 0,.ix ((t.i).toNat),.rorow 1 (t.io+((t.i).toNat)) 0,.rorow 1 (t.io+((t.i).toNat)) 1,.rorow 1 (t.io+((t.i).toNat)) 2] [((t.io * 3+((t.i).toNat) * 3)+2)=(t.io+((t.i).toNat)) * 3+2 /\ (t.io+((t.i).toNat)) < t.iR,((t.io * 3+((t.i).toNat) * 3)+1)=(t.io+((t.i).toNat)) * 3+1 /\ (t.io+((t.i).toNat)) < t.iR,(t.io * 3+((t.i).toNat) * 3)=(t.io+((t.i).toNat)) * 3+0 /\ (t.io+((t.i).toNat)) < t.iR,t.i=(((t.i).toNat:Nat):Int) /\ (t.i).toNat < t.ni]<|RD.one 10 (RDO.ev [] [] λ n9=>?_)
    refine RD.one 11 (RDO.ev [] [.own 0,.own 0,.own 0] λ _=>?_)
    refine RD.fin<|RN.go 2 [] λ _=>RN.draw [8] []<|RD.goP [] [0,4,6,1,5,7,2,3] [.nw,.own 0,.own 1] [I64 ((playerAt t.S t.i)+0)]<|RD.one 8 (RDO.ctK [] [] [0] (set_any ((playerAt t.S t.i)+0) ((t.ins.getD (t.io+((t.i).toNat)) dI).dx) hM5 (hpl h7 0 (by decide) (by decide))) ?_)
    rintro _ T10 hM11
    refine RD.fin<|RN.go 2 [] λ _=>RN.draw [8] []<|RD.goP [] [0,4,6,1,5,7,2,3] [.nw,.own 0,.own 1] [I64 ((playerAt t.S t.i)+1)]<|RD.one 8 (RDO.ctK [] [] [0] (set_any ((playerAt t.S t.i)+1) ((t.ins.getD (t.io+((t.i).toNat)) dI).dy) hM11 (hpl h7 1 (by decide) (by decide))) ?_)
    rintro _ T12 hM13
    refine RD.fin<|RN.go 1 [] λ _=>RN.draw [8] []<|RD.goP [] [0,4,6,1,5,7,2,3] [.nw,.own 0,.own 1] [I64 ((playerAt t.S t.i)+2)]<|RD.one 8 (RDO.ctK [] [] [0] (set_any ((playerAt t.S t.i)+2) ((t.ins.getD (t.io+((t.i).toNat)) dI).act) hM13 (hpl h7 2 (by decide) (by decide))) ?_)
    rintro _ T14 hM15
    refine RD.fin<|RN.go 2 [] λ _=>RN.draw [] []<|RD.go [] [0,5,1,6,2,7,3,8,4,9,10] [.own 1,.own 1]<|RD.fin<|RN.go 1 [] λ _=>RN.em (IntKind.i64.wrap (t.i+1) < t.S.players) 95 (λ h16=>?_) λ h16=>?_
    ·refine RN.go 1 [] λ _=>RN.draw [11] []<|RD.go [] [0,4,1,5,2,6,3,7,8,9,10] [.own 1,.own 1]<|RD.one 11 (RDO.ctK [] [] [0] (set_any 2 (IntKind.i64.wrap (t.i+1)) hM15 (hl 2 (by decide) (by decide))) ?_)
     rintro _ T17 hM18
     refine RD.fin<|RN.ret [] [1] [0] (v:=.tuple #[]) (H':=(ap [(tb,.lit (Stp.l K t mb) 94 (0,0))] [T17])) ?_
     refine ⟨T17,rfl,?_⟩
     have e:(inputM t M)=((((((M.set 13 t.version).set 11 0).set ((playerAt t.S t.i)+0) ((t.ins.getD (t.io+((t.i).toNat)) dI).dx)).set ((playerAt t.S t.i)+1) ((t.ins.getD (t.io+((t.i).toNat)) dI).dy)).set ((playerAt t.S t.i)+2) ((t.ins.getD (t.io+((t.i).toNat)) dI).act)).set 2 (IntKind.i64.wrap (t.i+1))):=by
      first | (simp only [inputM,inputA,inputB,inputC,Stp.inp,if_pos h1,if_pos h7,if_pos h8,if_pos h16];done) | (simp only [inputM,inputA,inputB,inputC,Stp.inp,if_pos h1,if_pos h7,if_pos h8,if_pos h16];rfl) | rfl
     rw [e]
     exact hM18.weak (by omega)
    ·refine RN.go 3 [] λ _=>RN.ct [1] [0] (begin_any t 1 0 tb mb (((((M.set 13 t.version).set 11 0).set ((playerAt t.S t.i)+0) ((t.ins.getD (t.io+((t.i).toNat)) dI).dx)).set ((playerAt t.S t.i)+1) ((t.ins.getD (t.io+((t.i).toNat)) dI).dy)).set ((playerAt t.S t.i)+2) ((t.ins.getD (t.io+((t.i).toNat)) dI).act)) k T14 _ hM15 hS.up hl) ?_
     rintro _ T19 hM20
     refine RN.go 1 [] λ _=>RN.ret [] [0] [0] (v:=.tuple #[]) (H':=(ap [(tb,.lit (Stp.l K t mb) 94 (0,0))] [T19])) ?_
     refine ⟨T19,rfl,?_⟩
     have e:(inputM t M)=(beginM t 1 0 (((((M.set 13 t.version).set 11 0).set ((playerAt t.S t.i)+0) ((t.ins.getD (t.io+((t.i).toNat)) dI).dx)).set ((playerAt t.S t.i)+1) ((t.ins.getD (t.io+((t.i).toNat)) dI).dy)).set ((playerAt t.S t.i)+2) ((t.ins.getD (t.io+((t.i).toNat)) dI).act))):=by
      first | (simp only [inputM,inputA,inputB,inputC,Stp.inp,if_pos h1,if_pos h7,if_pos h8,if_neg h16];done) | (simp only [inputM,inputA,inputB,inputC,Stp.inp,if_pos h1,if_pos h7,if_pos h8,if_neg h16];rfl) | rfl
     rw [e]
     exact hM20.weak (by omega)
   ·refine RN.go 4 [] λ _=>RN.draw [] []<|RD.go [] [0,5,1,6,2,7,3,8,4,9,10] [.own 0,.own 0]<|RD.fin<|RN.go 1 [] λ _=>RN.em (IntKind.i64.wrap (t.i+1) < t.S.players) 95 (λ h21=>?_) λ h21=>?_
    ·refine RN.go 1 [] λ _=>RN.draw [11] []<|RD.go [] [0,4,1,5,2,6,3,7,8,9,10] [.own 0,.own 0]<|RD.one 11 (RDO.ctK [] [] [0] (set_any 2 (IntKind.i64.wrap (t.i+1)) hM5 (hl 2 (by decide) (by decide))) ?_)
     rintro _ T22 hM23
     refine RD.fin<|RN.ret [] [0] [0] (v:=.tuple #[]) (H':=(ap [(tb,.lit (Stp.l K t mb) 94 (0,0))] [T22])) ?_
     refine ⟨T22,rfl,?_⟩
     have e:(inputM t M)=(((M.set 13 t.version).set 11 0).set 2 (IntKind.i64.wrap (t.i+1))):=by
      first | (simp only [inputM,inputA,inputB,inputC,Stp.inp,if_pos h1,if_pos h7,if_neg h8,if_pos h21];done) | (simp only [inputM,inputA,inputB,inputC,Stp.inp,if_pos h1,if_pos h7,if_neg h8,if_pos h21];rfl) | rfl
     rw [e]
     exact hM23.weak (by omega)
    ·refine RN.go 3 [] λ _=>RN.ct [0] [0] (begin_any t 1 0 tb mb ((M.set 13 t.version).set 11 0) (k+3) T4 _ hM5 hS.up hl) ?_
     rintro _ T24 hM25
     refine RN.go 1 [] λ _=>RN.ret [] [0] [0] (v:=.tuple #[]) (H':=(ap [(tb,.lit (Stp.l K t mb) 94 (0,0))] [T24])) ?_
     refine ⟨T24,rfl,?_⟩
     have e:(inputM t M)=(beginM t 1 0 ((M.set 13 t.version).set 11 0)):=by
      first | (simp only [inputM,inputA,inputB,inputC,Stp.inp,if_pos h1,if_pos h7,if_neg h8,if_neg h21];done) | (simp only [inputM,inputA,inputB,inputC,Stp.inp,if_pos h1,if_pos h7,if_neg h8,if_neg h21];rfl) | rfl
     rw [e]
     exact hM25.weak (by omega)
  ·refine RD.go [] [3,7,4,8,5,9,6,10,11,12,13] []<|RD.fin<|RN.go 5 [] λ _=>RN.draw [] []<|RD.go [] [0,5,1,6,2,7,3,8,4,9,10] [.own 0,.own 0]<|RD.fin<|RN.go 1 [] λ _=>RN.em (IntKind.i64.wrap (t.i+1) < t.S.players) 95 (λ h26=>?_) λ h26=>?_
   ·refine RN.go 1 [] λ _=>RN.draw [11] []<|RD.go [] [0,4,1,5,2,6,3,7,8,9,10] [.own 0,.own 0]<|RD.one 11 (RDO.ctK [] [] [0] (set_any 2 (IntKind.i64.wrap (t.i+1)) hM5 (hl 2 (by decide) (by decide))) ?_)
    rintro _ T27 hM28
    refine RD.fin<|RN.ret [] [0] [0] (v:=.tuple #[]) (H':=(ap [(tb,.lit (Stp.l K t mb) 94 (0,0))] [T27])) ?_
    refine ⟨T27,rfl,?_⟩
    have e:(inputM t M)=(((M.set 13 t.version).set 11 0).set 2 (IntKind.i64.wrap (t.i+1))):=by
     first | (simp only [inputM,inputA,inputB,inputC,Stp.inp,if_pos h1,if_neg h7,if_pos h26];done) | (simp only [inputM,inputA,inputB,inputC,Stp.inp,if_pos h1,if_neg h7,if_pos h26];rfl) | rfl
    rw [e]
    exact hM28.weak (by omega)
   ·refine RN.go 3 [] λ _=>RN.ct [0] [0] (begin_any t 1 0 tb mb ((M.set 13 t.version).set 11 0) (k+3) T4 _ hM5 hS.up hl) ?_
    rintro _ T29 hM30
    refine RN.go 1 [] λ _=>RN.ret [] [0] [0] (v:=.tuple #[]) (H':=(ap [(tb,.lit (Stp.l K t mb) 94 (0,0))] [T29])) ?_
    refine ⟨T29,rfl,?_⟩
    have e:(inputM t M)=(beginM t 1 0 ((M.set 13 t.version).set 11 0)):=by
     first | (simp only [inputM,inputA,inputB,inputC,Stp.inp,if_pos h1,if_neg h7,if_neg h26];done) | (simp only [inputM,inputA,inputB,inputC,Stp.inp,if_pos h1,if_neg h7,if_neg h26];rfl) | rfl
    rw [e]
    exact hM30.weak (by omega)
 ·refine RN.go 5 [] λ _=>RN.draw [] []<|RD.go [] [0,4,1,5,2,6,3,7] (ow 0 17)<|RD.cp [] 8 (λ X_=>(lplayer_any t.S t.i _ hS.toSetN)) ?_
  have hb31:=playerAt_bd hS.toSetN t.i
  refine RD.go [] [9] []<|RD.fin<|RN.go 2 [] λ _=>RN.draw [] []<|RD.go [] [0,1,2] []<|RD.em (playerAt t.S t.i >= 0) 36 (λ h32=>?_) λ h32=>?_
  ·refine RD.go [] [3,7,4,8,5,9,6,10,11,12,13] [.own 0,.own 0]<|RD.fin<|RN.go 1 [] λ _=>RN.em (t.i < (t.ni:Int)) 47 (λ h33=>?_) λ h33=>?_
   ·refine RN.go 2 [] λ _=>RN.draw [11] []<|RD.goP [] [0,4,1,5,2,6,3,7,8,9] [.own 0,.own 0,.ix ((t.i).toNat),.rorow 1 (t.io+((t.i).toNat)) 0,.rorow 1 (t.io+((t.i).toNat)) 1,.rorow 1 (t.io+((t.i).toNat)) 2] [((t.io * 3+((t.i).toNat) * 3)+2)=(t.io+((t.i).toNat)) * 3+2 /\ (t.io+((t.i).toNat)) < t.iR,((t.io * 3+((t.i).toNat) * 3)+1)=(t.io+((t.i).toNat)) * 3+1 /\ (t.io+((t.i).toNat)) < t.iR,(t.io * 3+((t.i).toNat) * 3)=(t.io+((t.i).toNat)) * 3+0 /\ (t.io+((t.i).toNat)) < t.iR,t.i=(((t.i).toNat:Nat):Int) /\ (t.i).toNat < t.ni]<|RD.one 10 (RDO.ev [] [] λ n34=>?_)
    refine RD.one 11 (RDO.ev [] [.own 0,.own 0,.own 0] λ _=>?_)
    refine RD.fin<|RN.go 2 [] λ _=>RN.draw [8] []<|RD.goP [] [0,4,6,1,5,7,2,3] [.nw,.own 0,.own 1] [I64 ((playerAt t.S t.i)+0)]<|RD.one 8 (RDO.ctK [] [] [0] (set_any ((playerAt t.S t.i)+0) ((t.ins.getD (t.io+((t.i).toNat)) dI).dx) hM (hpl h32 0 (by decide) (by decide))) ?_)
    rintro _ T35 hM36
    refine RD.fin<|RN.go 2 [] λ _=>RN.draw [8] []<|RD.goP [] [0,4,6,1,5,7,2,3] [.nw,.own 0,.own 1] [I64 ((playerAt t.S t.i)+1)]<|RD.one 8 (RDO.ctK [] [] [0] (set_any ((playerAt t.S t.i)+1) ((t.ins.getD (t.io+((t.i).toNat)) dI).dy) hM36 (hpl h32 1 (by decide) (by decide))) ?_)
    rintro _ T37 hM38
    refine RD.fin<|RN.go 1 [] λ _=>RN.draw [8] []<|RD.goP [] [0,4,6,1,5,7,2,3] [.nw,.own 0,.own 1] [I64 ((playerAt t.S t.i)+2)]<|RD.one 8 (RDO.ctK [] [] [0] (set_any ((playerAt t.S t.i)+2) ((t.ins.getD (t.io+((t.i).toNat)) dI).act) hM38 (hpl h32 2 (by decide) (by decide))) ?_)
    rintro _ T39 hM40
    refine RD.fin<|RN.go 2 [] λ _=>RN.draw [] []<|RD.go [] [0,5,1,6,2,7,3,8,4,9,10] [.own 1,.own 1]<|RD.fin<|RN.go 1 [] λ _=>RN.em (IntKind.i64.wrap (t.i+1) < t.S.players) 95 (λ h41=>?_) λ h41=>?_
    ·refine RN.go 1 [] λ _=>RN.draw [11] []<|RD.go [] [0,4,1,5,2,6,3,7,8,9,10] [.own 1,.own 1]<|RD.one 11 (RDO.ctK [] [] [0] (set_any 2 (IntKind.i64.wrap (t.i+1)) hM40 (hl 2 (by decide) (by decide))) ?_)
     rintro _ T42 hM43
     refine RD.fin<|RN.ret [] [1] [0] (v:=.tuple #[]) (H':=(ap [(tb,.lit (Stp.l K t mb) 94 (0,0))] [T42])) ?_
     refine ⟨T42,rfl,?_⟩
     have e:(inputM t M)=((((M.set ((playerAt t.S t.i)+0) ((t.ins.getD (t.io+((t.i).toNat)) dI).dx)).set ((playerAt t.S t.i)+1) ((t.ins.getD (t.io+((t.i).toNat)) dI).dy)).set ((playerAt t.S t.i)+2) ((t.ins.getD (t.io+((t.i).toNat)) dI).act)).set 2 (IntKind.i64.wrap (t.i+1))):=by
      first | (simp only [inputM,inputA,inputB,inputC,Stp.inp,if_neg h1,if_pos h32,if_pos h33,if_pos h41];done) | (simp only [inputM,inputA,inputB,inputC,Stp.inp,if_neg h1,if_pos h32,if_pos h33,if_pos h41];rfl) | rfl
     rw [e]
     exact hM43.weak (by omega)
    ·refine RN.go 3 [] λ _=>RN.ct [1] [0] (begin_any t 1 0 tb mb (((M.set ((playerAt t.S t.i)+0) ((t.ins.getD (t.io+((t.i).toNat)) dI).dx)).set ((playerAt t.S t.i)+1) ((t.ins.getD (t.io+((t.i).toNat)) dI).dy)).set ((playerAt t.S t.i)+2) ((t.ins.getD (t.io+((t.i).toNat)) dI).act)) (k+2) T39 _ hM40 hS.up hl) ?_
     rintro _ T44 hM45
     refine RN.go 1 [] λ _=>RN.ret [] [0] [0] (v:=.tuple #[]) (H':=(ap [(tb,.lit (Stp.l K t mb) 94 (0,0))] [T44])) ?_
     refine ⟨T44,rfl,?_⟩
     have e:(inputM t M)=(beginM t 1 0 (((M.set ((playerAt t.S t.i)+0) ((t.ins.getD (t.io+((t.i).toNat)) dI).dx)).set ((playerAt t.S t.i)+1) ((t.ins.getD (t.io+((t.i).toNat)) dI).dy)).set ((playerAt t.S t.i)+2) ((t.ins.getD (t.io+((t.i).toNat)) dI).act))):=by
      first | (simp only [inputM,inputA,inputB,inputC,Stp.inp,if_neg h1,if_pos h32,if_pos h33,if_neg h41];done) | (simp only [inputM,inputA,inputB,inputC,Stp.inp,if_neg h1,if_pos h32,if_pos h33,if_neg h41];rfl) | rfl
     rw [e]
     exact hM45.weak (by omega)
   ·refine RN.go 4 [] λ _=>RN.draw [] []<|RD.go [] [0,5,1,6,2,7,3,8,4,9,10] [.own 0,.own 0]<|RD.fin<|RN.go 1 [] λ _=>RN.em (IntKind.i64.wrap (t.i+1) < t.S.players) 95 (λ h46=>?_) λ h46=>?_
    ·refine RN.go 1 [] λ _=>RN.draw [11] []<|RD.go [] [0,4,1,5,2,6,3,7,8,9,10] [.own 0,.own 0]<|RD.one 11 (RDO.ctK [] [] [0] (set_any 2 (IntKind.i64.wrap (t.i+1)) hM (hl 2 (by decide) (by decide))) ?_)
     rintro _ T47 hM48
     refine RD.fin<|RN.ret [] [0] [0] (v:=.tuple #[]) (H':=(ap [(tb,.lit (Stp.l K t mb) 94 (0,0))] [T47])) ?_
     refine ⟨T47,rfl,?_⟩
     have e:(inputM t M)=(M.set 2 (IntKind.i64.wrap (t.i+1))):=by
      first | (simp only [inputM,inputA,inputB,inputC,Stp.inp,if_neg h1,if_pos h32,if_neg h33,if_pos h46];done) | (simp only [inputM,inputA,inputB,inputC,Stp.inp,if_neg h1,if_pos h32,if_neg h33,if_pos h46];rfl) | rfl
     rw [e]
     exact hM48.weak (by omega)
    ·refine RN.go 3 [] λ _=>RN.ct [0] [0] (begin_any t 1 0 tb mb M (k+5) T _ hM hS.up hl) ?_
     rintro _ T49 hM50
     refine RN.go 1 [] λ _=>RN.ret [] [0] [0] (v:=.tuple #[]) (H':=(ap [(tb,.lit (Stp.l K t mb) 94 (0,0))] [T49])) ?_
     refine ⟨T49,rfl,?_⟩
     have e:(inputM t M)=(beginM t 1 0 M):=by
      first | (simp only [inputM,inputA,inputB,inputC,Stp.inp,if_neg h1,if_pos h32,if_neg h33,if_neg h46];done) | (simp only [inputM,inputA,inputB,inputC,Stp.inp,if_neg h1,if_pos h32,if_neg h33,if_neg h46];rfl) | rfl
     rw [e]
     exact hM50.weak (by omega)
  ·refine RD.go [] [3,7,4,8,5,9,6,10,11,12,13] []<|RD.fin<|RN.go 5 [] λ _=>RN.draw [] []<|RD.go [] [0,5,1,6,2,7,3,8,4,9,10] [.own 0,.own 0]<|RD.fin<|RN.go 1 [] λ _=>RN.em (IntKind.i64.wrap (t.i+1) < t.S.players) 95 (λ h51=>?_) λ h51=>?_
   ·refine RN.go 1 [] λ _=>RN.draw [11] []<|RD.go [] [0,4,1,5,2,6,3,7,8,9,10] [.own 0,.own 0]<|RD.one 11 (RDO.ctK [] [] [0] (set_any 2 (IntKind.i64.wrap (t.i+1)) hM (hl 2 (by decide) (by decide))) ?_)
    rintro _ T52 hM53
    refine RD.fin<|RN.ret [] [0] [0] (v:=.tuple #[]) (H':=(ap [(tb,.lit (Stp.l K t mb) 94 (0,0))] [T52])) ?_
    refine ⟨T52,rfl,?_⟩
    have e:(inputM t M)=(M.set 2 (IntKind.i64.wrap (t.i+1))):=by
     first | (simp only [inputM,inputA,inputB,inputC,Stp.inp,if_neg h1,if_neg h32,if_pos h51];done) | (simp only [inputM,inputA,inputB,inputC,Stp.inp,if_neg h1,if_neg h32,if_pos h51];rfl) | rfl
    rw [e]
    exact hM53.weak (by omega)
   ·refine RN.go 3 [] λ _=>RN.ct [0] [0] (begin_any t 1 0 tb mb M (k+5) T _ hM hS.up hl) ?_
    rintro _ T54 hM55
    refine RN.go 1 [] λ _=>RN.ret [] [0] [0] (v:=.tuple #[]) (H':=(ap [(tb,.lit (Stp.l K t mb) 94 (0,0))] [T54])) ?_
    refine ⟨T54,rfl,?_⟩
    have e:(inputM t M)=(beginM t 1 0 M):=by
     first | (simp only [inputM,inputA,inputB,inputC,Stp.inp,if_neg h1,if_neg h32,if_neg h51];done) | (simp only [inputM,inputA,inputB,inputC,Stp.inp,if_neg h1,if_neg h32,if_neg h51];rfl) | rfl
    rw [e]
    exact hM55.weak (by omega)
end Go.Proofs.YtkhifpbokgabbaaGreatDoor
