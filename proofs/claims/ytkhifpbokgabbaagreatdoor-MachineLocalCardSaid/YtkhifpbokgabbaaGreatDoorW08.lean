import Derived.Test.YtkhifpbokgabbaaGreatDoorW07
set_option maxHeartbeats 4000000
set_option maxRecDepth 100000
set_option linter.unusedSimpArgs false
set_option linter.unusedVariables false
namespace Go.Proofs.YtkhifpbokgabbaaGreatDoor
open Go.RowKit
structure MemS where
 cs:List Int
 lg:List (Int × Int)
 base:Int
def MemS.get (M:MemS) (i:Int):Int:=if 0 <= i /\ i < M.cs.length then M.cs.getD i.toNat 0 else 0
def MemS.set (M:MemS) (i v:Int):MemS:=if 0 <= i /\ i < M.cs.length then ⟨M.cs.set i.toNat v,M.lg++[(i,M.cs.getD i.toNat 0)],M.base⟩ else M
def irow (cs:List Int):Nat -> Nat -> Value:=λ i k=>match k with | 0=>vI (cs.getD i 0) | _=>default
theorem irow_set {cs:List Int} {i:Nat} (h:i < cs.length) (v:Int):updG (irow cs) i 0 (vI v)=irow (cs.set i v):=by
 funext i' k'
 unfold updG irow
 by_cases h1:i'=i
 ·subst h1
  rcases k' with _ | k'
  ·simp [h]
  ·simp
 ·rcases k' with _ | k'
  ·have:¬ i=i':=λ e=>h1 e.symm
   simp [h1,List.getElem?_set,this]
  ·simp
def entE:Enc (Int × Int):=⟨2,λ p k=>match k with | 0=>vI p.1 | _=>vI p.2,(0,0)⟩
noncomputable def entEI:TypeInfo:=match Tryz.prog.info? 250 with | some i=>i | none=>⟨.bool,"",0,0,false,0,0,none,false,#[]⟩
noncomputable def entEZ:Value:=match entEI.zero with | some z=>z | none=>.bool false
theorem entEOk:EncOk entE Tryz.prog 250 entEI entEZ where
 info:=by kernel_rfl
 zero:=by kernel_rfl
 size:=by kernel_rfl
 zsize:=by kernel_rfl
 zcell:=λ k hk=>by
  have h:∀ k < 2,entEZ.cells[k]?=some (entE.cell entE.dflt k):=by intro k hk;(iterate 2 (rcases k with _ | k;· kernel_rfl));omega
  exact h k hk
 one:=λ x k=>by unfold entE;dsimp only;split <;> rfl
 bytes:=Nat.le_of_ble_eq_true (by kernel_rfl)
def intE:Enc Int:=⟨1,λ p k=>match k with | 0=>vI p | _=>vI p,0⟩
noncomputable def intEI:TypeInfo:=match Tryz.prog.info? 3 with | some i=>i | none=>⟨.bool,"",0,0,false,0,0,none,false,#[]⟩
noncomputable def intEZ:Value:=match intEI.zero with | some z=>z | none=>.bool false
theorem intEOk:EncOk intE Tryz.prog 3 intEI intEZ where
 info:=by kernel_rfl
 zero:=by kernel_rfl
 size:=by kernel_rfl
 zsize:=by kernel_rfl
 zcell:=λ k hk=>by
  have h:∀ k < 1,intEZ.cells[k]?=some (intE.cell intE.dflt k):=by intro k hk;(iterate 1 (rcases k with _ | k;· kernel_rfl));omega
  exact h k hk
 one:=λ x k=>by unfold intE;dsimp only;split <;> rfl
 bytes:=Nat.le_of_ble_eq_true (by kernel_rfl)
inductive Kd | mem | prb
abbrev Kd.tid:Kd -> Nat | .mem=>44 | .prb=>38
abbrev Kd.getF:Kd -> Nat | .mem=>34 | .prb=>203
abbrev Kd.setF:Kd -> Nat | .mem=>208 | .prb=>204
inductive MemK:Kd -> (Int -> Prop) -> Nat -> MemS -> Nat -> HL -> Prop
 | mk {D:Int -> Prop} {mb:Nat} {M:MemS} {k:Nat} (cb:Nat) (A:Option Addr) (cap:Nat) (Hl:HL) (hs:SlIs entE 250 M.lg A cap Hl) (hc:M.cs.length <= 1000000) (hl:M.lg.length+k <= 100000000):MemK .mem D mb M k (ap [(mb,.lit [vS cb 0 M.cs.length M.cs.length,.slice A M.lg.length cap,vI M.base] 87 (0,0)),(cb,.rows 1 M.cs.length (irow M.cs) 3 (0,0))] [Hl])
 | pr {D:Int -> Prop} {mb:Nat} {M:MemS} {k:Nat} (cb:Nat) (A:Option Addr) (c:Nat) (al:List Int) (Hl:HL) (hs:SlIs intE 3 al A c Hl) (hz:zeroOff A) (hn:al.length <= 100000) (hD:∀ i,D i -> i ∈ al) (hc:M.cs.length <= 1000000):MemK .prb D mb M k (ap [(mb,.lit [vS cb 0 M.cs.length M.cs.length,.slice A al.length c,.bool false] 41 (0,0)),(cb,.rows 1 M.cs.length (irow M.cs) 3 (0,0))] [Hl])
abbrev DT:Int -> Prop:=λ _=>True
abbrev MemH (mb:Nat) (M:MemS) (k:Nat) (T:HL):Prop:=MemK .mem DT mb M k T
theorem MemH.mk {mb:Nat} {M:MemS} {k:Nat} (cb:Nat) (A:Option Addr) (cap:Nat) (Hl:HL) (hs:SlIs entE 250 M.lg A cap Hl) (hc:M.cs.length <= 1000000) (hl:M.lg.length+k <= 100000000):MemH mb M k (ap [(mb,.lit [vS cb 0 M.cs.length M.cs.length,.slice A M.lg.length cap,vI M.base] 87 (0,0)),(cb,.rows 1 M.cs.length (irow M.cs) 3 (0,0))] [Hl]):=MemK.mk cb A cap Hl hs hc hl
theorem MemK.dom {D E:Int -> Prop} {mb:Nat} {M:MemS} {k:Nat} {T:HL} (h:MemK .mem D mb M k T):MemK .mem E mb M k T:=by
 cases h with
 | mk cb A cap Hl hs hc hl=>exact .mk cb A cap Hl hs hc hl
theorem MemK.weak {K:Kd} {D:Int -> Prop} {mb:Nat} {M:MemS} {k k':Nat} {T:HL} (h:MemK K D mb M k T) (hk:k' <= k):MemK K D mb M k' T:=by
 cases h with
 | mk cb A cap Hl hs hc hl=>exact .mk cb A cap Hl hs hc (by omega)
 | pr cb A c al Hl hs hz hn hD hc=>exact .pr cb A c al Hl hs hz hn hD hc
theorem MemK.cast {K:Kd} {D:Int -> Prop} {mb:Nat} {M M':MemS} {k k':Nat} {T:HL} (h:MemK K D mb M k T) (e:M'=M) (hk:k' <= k):MemK K D mb M' k' T:=e ▸ h.weak hk
theorem MemH.put {mb:Nat} {M:MemS} {k:Nat} {i v:Int} {cb:Nat} {A:Option Addr} {cap:Nat} {Hl:HL} (h:0 <= i /\ i < M.cs.length) (hc:M.cs.length <= 1000000) (hl:M.lg.length+(k+1) <= 100000000) (hs:SlIs entE 250 (M.lg++[(i,M.cs.getD i.toNat 0)]) A cap Hl) :
  MemH mb (M.set i v) k (ap [(mb,.lit [vS cb 0 M.cs.length M.cs.length,.slice A (M.lg.length+[(i,M.cs.getD i.toNat 0)].length) cap,vI M.base] 87 (0,0)),(cb,.rows 1 M.cs.length (updG (irow M.cs) i.toNat 0 (vI v)) 3 (0,0))] [Hl]):=by
 have e:M.set i v=⟨M.cs.set i.toNat v,M.lg++[(i,M.cs.getD i.toNat 0)],M.base⟩:=by unfold MemS.set;rw [if_pos h]
 rw [e,irow_set (by omega)]
 have:=MemH.mk (M:=⟨M.cs.set i.toNat v,M.lg++[(i,M.cs.getD i.toNat 0)],M.base⟩) (k:=k) cb A cap Hl hs (by simpa using hc) (by simp;omega) (mb:=mb)
 simpa using this
theorem has_mem (mb cb n:Nat) (A:Option Addr) (m cap:Nat) (base i:Int) (F:HL) (hm:(mb,.lit [vS cb 0 n n,.slice A m cap,vI base] 87 (0,0)) ∈ F):Sp Tryz.prog 58 #[vP mb 0,vI i] [] F (λ u H'=>u=.bool (decide (0 <= i /\ i < n)) /\ H'=[]):=by
 refine Sp.run Tryz.func58 rfl (mc hm mn) (A:=[]) (Ts:=[]) rfl λ w0=>?_
 refine RN.go 10 [] λ _=>RN.em (0 <= i) 7 (λ h1=>?_) λ h1=>?_
 ·refine RN.go 11 [.ro 0] λ _=>RN.ret [] [] [] (v:=.bool (decide (i < (n:Int)))) (H':=[]) ?_
  exact ⟨by simp [*],rfl⟩
 ·refine RN.go 11 [] λ _=>RN.ret [] [] [] (v:=.bool false) (H':=[]) ?_
  exact ⟨by simp [*],rfl⟩
theorem get_mem (mb cb:Nat) (cs:List Int) (A:Option Addr) (m cap:Nat) (base i:Int) (lg:List (Int × Int)) (F:HL) (hm:(mb,.lit [vS cb 0 cs.length cs.length,.slice A m cap,vI base] 87 (0,0)) ∈ F) (hc:(cb,.rows 1 cs.length (irow cs) 3 (0,0)) ∈ F) (hn:cs.length <= 1000000):Sp Tryz.prog 34 #[vP mb 0,vI i] [] F (λ u H'=>u=vI (MemS.get ⟨cs,lg,base⟩ i) /\ H'=[]):=by
 refine Sp.run Tryz.func34 rfl (mc hm (mc hc mn)) (A:=[]) (Ts:=[]) rfl λ w0=>?_
 refine RN.go 10 [] λ _=>RN.cp (has_mem mb cb cs.length A m cap base i _ (ro_ap hm))<|RN.go 3 [] λ _=>RN.en (0 <= i /\ i < cs.length) 8 (λ h1=>?_) λ h1=>?_
 ·refine RN.goP 15 [.ro 0,.ix ((i).toNat),.rorow 1 ((i).toNat) 0] [(0+((i).toNat) * 1)=((i).toNat) * 1+0 /\ ((i).toNat) < cs.length,i=(((i).toNat:Nat):Int) /\ (i).toNat < cs.length] λ _=>RN.ret [] [] [] (v:=vI (cs.getD ((i).toNat) 0)) (H':=[]) ?_
  exact ⟨by simp [MemS.get, *],rfl⟩
 ·refine RN.go 6 [] λ _=>RN.ret [] [] [] (v:=vI 0) (H':=[]) ?_
  exact ⟨by simp [MemS.get, *],rfl⟩
theorem get_mm {D:Int -> Prop} {mb:Nat} {M:MemS} {k:Nat} {T:HL} (i:Int) {F:HL} (h:MemK .mem D mb M k T) (hs:∀ x ∈ T,x ∈ F):Sp Tryz.prog 34 #[vP mb 0,vI i] [] F (λ u H'=>u=vI (M.get i) /\ H'=[]):=by
 cases h with
 | mk cb A cap Hl hsl hc hl=>exact get_mem mb cb M.cs A M.lg.length cap M.base i M.lg F (hs _ (by simp)) (hs _ (by simp)) hc
theorem set_mem (mb cb:Nat) (M:MemS) (k:Nat) (A:Option Addr) (cap:Nat) (i v:Int) (Hl:HL) (F:HL) (hs:SlIs entE 250 M.lg A cap Hl) (hc:M.cs.length <= 1000000) (hl:M.lg.length+(k+1) <= 100000000):Sp Tryz.prog 208 #[vP mb 0,vI i,vI v] (ap [(mb,.lit [vS cb 0 M.cs.length M.cs.length,.slice A M.lg.length cap,vI M.base] 87 (0,0)),(cb,.rows 1 M.cs.length (irow M.cs) 3 (0,0))] [Hl]) F (λ u H'=>MemH mb (M.set i v) k H'):=by
 refine Sp.run Tryz.func208 rfl mn (A:=[(mb,.lit [vS cb 0 M.cs.length M.cs.length,.slice A M.lg.length cap,vI M.base] 87 (0,0)),(cb,.rows 1 M.cs.length (irow M.cs) 3 (0,0))]) (Ts:=[Hl]) rfl λ w0=>?_
 refine RN.go 5 [] λ _=>RN.cp (has_mem mb cb M.cs.length A M.lg.length cap M.base i _ (in_ap 0))<|RN.go 3 [] λ _=>RN.en (0 <= i /\ i < M.cs.length) 9 (λ h1=>?_) λ h1=>?_
 ·refine RN.go 4 [] λ _=>RN.draw [15,18] []<|RD.goP [] [0,1,5,6,10,2,7,3,8,4,9,11,12,13] [.own 0,.own 0,.ix ((i).toNat),.row 1 ((i).toNat) 0] [(0+((i).toNat) * 1)=((i).toNat) * 1+0 /\ ((i).toNat) < M.cs.length,i=(((i).toNat:Nat):Int) /\ (i).toNat < M.cs.length]<|RD.one 14 (RDO.ev [] [] λ n3=>?_)
  refine RD.one 15 (RDO.app [] entEOk M.lg [(i,M.cs.getD i.toNat 0)] 0 0 rfl hs (by simp;omega) ?_)
  rintro A4 c5 T6 ⟨hs7,hz8⟩
  refine RD.go [] [16,17] []<|RD.one 18 (RDO.ev [] [.own 1] λ _=>?_)
  refine RD.fin<|RN.goP 11 [.own 1,.ix ((i).toNat),.row 2 ((i).toNat) 0] [(0+((i).toNat) * 1)=((i).toNat) * 1+0 /\ ((i).toNat) < M.cs.length,i=(((i).toNat:Nat):Int) /\ (i).toNat < M.cs.length] λ _=>RN.ret [] [1,2] [0] (v:=.tuple #[]) (H':=(ap [(mb,.lit [vS cb 0 M.cs.length M.cs.length,.slice A4 (M.lg.length+([(i,M.cs.getD i.toNat 0)]).length) c5,vI M.base] 87 (0,0)),(cb,.rows 1 M.cs.length (updG (irow M.cs) ((i).toNat) 0 (vI v)) 3 (0,0))] [T6])) ?_
  exact MemH.put (by omega) hc (by omega) hs7
 ·refine RN.go 1 [] λ _=>RN.ret [] [0,1] [0] (v:=.tuple #[]) (H':=(ap [(mb,.lit [vS cb 0 M.cs.length M.cs.length,.slice A M.lg.length cap,vI M.base] 87 (0,0)),(cb,.rows 1 M.cs.length (irow M.cs) 3 (0,0))] [Hl])) ?_
  have e:M.set i v=M:=by unfold MemS.set;rw [if_neg (by assumption)]
  rw [e]
  exact .mk cb A cap Hl hs hc (by omega)
theorem set_mm {D:Int -> Prop} {mb:Nat} {M:MemS} {k:Nat} {T:HL} (i v:Int) {F:HL} (h:MemK .mem D mb M (k+1) T):Sp Tryz.prog 208 #[vP mb 0,vI i,vI v] (ap [] [T]) F (λ u H'=>∃ x,H'=ap ((λ _=>[]) x) ((λ x=>[x]) x) /\ MemK .mem D mb (M.set i v) k x):=by
 cases h with
 | mk cb A cap Hl hsl hc hl =>
  have e:∀ T:HL,ap [] [T]=T:=λ T=>by simp
  have:=set_mem mb cb M k A cap i v Hl F hsl hc hl
  rw [e]
  exact this.mono λ u H' h=>⟨H',(e H').symm,h.dom⟩
structure Bod where (sh:Shp) (mot:Mot) (a b:Int)
abbrev dB:Bod:=⟨⟨0,[],none,0⟩,⟨0,0,0,0,0⟩,0,0⟩
def bodE:Enc Bod:=⟨9,λ p k=>match k with | 0=>vI p.sh.r | 1=>.slice p.sh.A p.sh.poly.length p.sh.cap | 2=>vI p.mot.px | 3=>vI p.mot.py | 4=>vI p.mot.vx | 5=>vI p.mot.vy | 6=>vI p.mot.inv | 7=>vI p.a | _=>vI p.b,dB⟩
noncomputable def bodEI:TypeInfo:=match Tryz.prog.info? 64 with | some i=>i | none=>⟨.bool,"",0,0,false,0,0,none,false,#[]⟩
noncomputable def bodEZ:Value:=match bodEI.zero with | some z=>z | none=>.bool false
theorem bodEOk:EncOk bodE Tryz.prog 64 bodEI bodEZ where
 info:=by kernel_rfl
 zero:=by kernel_rfl
 size:=by kernel_rfl
 zsize:=by kernel_rfl
 zcell:=λ k hk=>by
  have h:∀ k < 9,bodEZ.cells[k]?=some (bodE.cell bodE.dflt k):=by intro k hk;(iterate 9 (rcases k with _ | k;· kernel_rfl));omega
  exact h k hk
 one:=λ x k=>by unfold bodE;dsimp only;split <;> rfl
 bytes:=Nat.le_of_ble_eq_true (by kernel_rfl)
abbrev brow (l:List Bod):Nat -> Nat -> Value:=rowE bodE l
structure Setup where
 players:Int
 bb:Nat
 bo:Nat
 nb:Nat
 bc:Nat
 bR:Nat
 bods:List Bod
 box:Bx
 rA:Option Addr
 rn:Nat
 rc:Nat
 dA:Option Addr
 dn:Nat
 dc:Nat
 fog:Int
 g:V2
 push:Int
 drag:Int
 rest:Int
 rounds:Int
 fuel:Int
def Setup.body (S:Setup) (k:Nat):Bod:=S.bods.getD (S.bo+k) dB
structure SetN (S:Setup):Prop where
 pl:0 <= S.players /\ S.players <= 1000000
 nb:S.nb <= 1000000
structure SetIn (F:HL) (S:Setup):Prop extends SetN S where
 blk:(S.bb,.rows 9 S.bR (brow S.bods) 64 (0,0)) ∈ F
 room:S.bo+S.nb <= S.bR
 shp:∀ k,k < S.nb -> ShIn F (S.body k).sh
theorem SetIn.up {F X:HL} {S:Setup} (h:SetIn F S):SetIn (X++F) S :=
 ⟨h.toSetN,List.mem_append_right _ h.blk,h.room,λ k hk=>(h.shp k hk).mono λ x hx=>List.mem_append_right _ hx⟩
def playerAt (S:Setup) (k:Int):Int:=if k < 0 then -1 else if k >= S.players then -1 else 48+4 * k
def bodyAt (S:Setup) (k:Int):Int:=if k < 0 then -1 else if k >= S.nb then -1 else 48+4 * S.players+8 * k
def sizeOf (S:Setup):Int:=48+4 * S.players+8 * S.nb
theorem playerAt_bd {S:Setup} (h:SetN S) (k:Int):(-1 <= playerAt S k /\ playerAt S k <= 1000000000) /\ (playerAt S k < 0 \/ (0 <= k /\ k < S.players)):=by
 have:=h.pl
 unfold playerAt;split
 ·omega
 ·split <;> omega
theorem bodyAt_bd {S:Setup} (h:SetN S) (k:Int):(-1 <= bodyAt S k /\ bodyAt S k <= 1000000000) /\ (bodyAt S k < 0 \/ (0 <= k /\ k < S.nb)):=by
 have:=h.pl
 have:=h.nb
 unfold bodyAt;split
 ·omega
 ·split <;> omega
abbrev Setup.v (S:Setup):Value:=.agg #[vI S.players,vS S.bb (S.bo * 9) S.nb S.bc,vI S.box.x0,vI S.box.y0,vI S.box.x1,vI S.box.y1,.slice S.rA S.rn S.rc,.slice S.dA S.dn S.dc,vI S.fog,vI S.g.x,vI S.g.y,vI S.push,vI S.drag,vI S.rest,vI S.rounds,vI S.fuel]
abbrev Setup.l (S:Setup):List Value:=[vI S.players,vS S.bb (S.bo * 9) S.nb S.bc,vI S.box.x0,vI S.box.y0,vI S.box.x1,vI S.box.y1,.slice S.rA S.rn S.rc,.slice S.dA S.dn S.dc,vI S.fog,vI S.g.x,vI S.g.y,vI S.push,vI S.drag,vI S.rest,vI S.rounds,vI S.fuel]
theorem lplayer_any (S:Setup) (k:Int) (F:HL) (hn:SetN S):Sp Tryz.prog 21 #[(Setup.v S),vI k] [] F (λ u H'=>u=vI (playerAt S k) /\ H'=[]):=by
 have h1:=hn.pl
 have h2:=hn.nb
 refine Sp.run Tryz.func21 rfl mn (A:=[]) (Ts:=[]) rfl λ w0=>?_
 refine RN.go 12 [] λ n1=>RN.em (k < 0) 7 (λ h2=>?_) λ h2=>?_
 ·refine RN.go 13 [] λ _=>RN.ret [] [] [] (v:=vI (-1)) (H':=[]) ?_
  refine ⟨?_,rfl⟩
  simp only [playerAt,if_pos h2]
 ·refine RN.go 7 [.own 0] λ _=>RN.em (k >= S.players) 12 (λ h3=>?_) λ h3=>?_
  ·refine RN.go 6 [] λ _=>RN.ret [] [] [] (v:=vI (-1)) (H':=[]) ?_
   refine ⟨?_,rfl⟩
   simp only [playerAt,if_neg h2,if_pos h3]
  ·refine RN.goP 11 [.nw,.nw] [I64 (48+(4 * k)),I64 (4 * k)] λ _=>RN.ret [] [] [] (v:=vI (48+(4 * k))) (H':=[]) ?_
   refine ⟨?_,rfl⟩
   simp only [playerAt,if_neg h2,if_neg h3]
theorem lbody_any (S:Setup) (k:Int) (F:HL) (hn:SetN S):Sp Tryz.prog 24 #[(Setup.v S),vI k] [] F (λ u H'=>u=vI (bodyAt S k) /\ H'=[]):=by
 have h1:=hn.pl
 have h2:=hn.nb
 refine Sp.run Tryz.func24 rfl mn (A:=[]) (Ts:=[]) rfl λ w0=>?_
 refine RN.go 12 [] λ n1=>RN.em (k < 0) 7 (λ h2=>?_) λ h2=>?_
 ·refine RN.go 14 [] λ _=>RN.ret [] [] [] (v:=vI (-1)) (H':=[]) ?_
  refine ⟨?_,rfl⟩
  simp only [bodyAt,if_pos h2]
 ·refine RN.go 8 [.own 0] λ _=>RN.em (k >= (S.nb:Int)) 13 (λ h3=>?_) λ h3=>?_
  ·refine RN.go 6 [] λ _=>RN.ret [] [] [] (v:=vI (-1)) (H':=[]) ?_
   refine ⟨?_,rfl⟩
   simp only [bodyAt,if_neg h2,if_pos h3]
  ·refine RN.goP 15 [.own 0,.nw,.nw,.nw,.nw] [I64 ((48+(4 * S.players))+(8 * k)),I64 (8 * k),I64 (48+(4 * S.players)),I64 (4 * S.players)] λ _=>RN.ret [] [] [] (v:=vI ((48+(4 * S.players))+(8 * k))) (H':=[]) ?_
   refine ⟨?_,rfl⟩
   simp only [bodyAt,if_neg h2,if_neg h3]
theorem rbody_any (S:Setup) (k:Int) (F:HL) (hn:SetN S):Sp Tryz.prog 18 #[(Setup.v S),vI k] [] F (λ u H'=>u=vI (bodyAt S k) /\ H'=[]):=by
 have h1:=hn.pl
 have h2:=hn.nb
 refine Sp.run Tryz.func18 rfl mn (A:=[]) (Ts:=[]) rfl λ w0=>?_
 refine RN.go 12 [] λ n1=>RN.em (k < 0) 7 (λ h2=>?_) λ h2=>?_
 ·refine RN.go 14 [] λ _=>RN.ret [] [] [] (v:=vI (-1)) (H':=[]) ?_
  refine ⟨?_,rfl⟩
  simp only [bodyAt,if_pos h2]
 ·refine RN.go 8 [.own 0] λ _=>RN.em (k >= (S.nb:Int)) 13 (λ h3=>?_) λ h3=>?_
  ·refine RN.go 6 [] λ _=>RN.ret [] [] [] (v:=vI (-1)) (H':=[]) ?_
   refine ⟨?_,rfl⟩
   simp only [bodyAt,if_neg h2,if_pos h3]
  ·refine RN.goP 15 [.own 0,.nw,.nw,.nw,.nw] [I64 ((48+(4 * S.players))+(8 * k)),I64 (8 * k),I64 (48+(4 * S.players)),I64 (4 * S.players)] λ _=>RN.ret [] [] [] (v:=vI ((48+(4 * S.players))+(8 * k))) (H':=[]) ?_
   refine ⟨?_,rfl⟩
   simp only [bodyAt,if_neg h2,if_neg h3]
theorem rsize_any (S:Setup) (F:HL) (hn:SetN S):Sp Tryz.prog 17 #[(Setup.v S)] [] F (λ u H'=>u=vI (sizeOf S) /\ H'=[]):=by
 have h1:=hn.pl
 have h2:=hn.nb
 refine Sp.run Tryz.func17 rfl mn (A:=[]) (Ts:=[]) rfl λ w0=>?_
 refine RN.goP 20 [.own 0,.nw,.nw,.own 0,.nw,.nw] [I64 ((48+(4 * S.players))+(8 * (S.nb:Int))),I64 (8 * (S.nb:Int)),I64 (48+(4 * S.players)),I64 (4 * S.players)] λ n1=>?_
 exact RN.ret [] [] [] ⟨rfl,rfl⟩
theorem SlIs.ofRows {α:Type} {e:Enc α} {T:TypeId} {l rest:List α} {b c:Nat} (h:(l++rest).length=c):SlIs e T l (some ⟨b,0,none⟩) c [(b,.rows e.w c (rowE e (l++rest)) T (0,0))] :=
 .inr ⟨b,0,l++rest,by rw [Nat.zero_mul],by rw [Nat.zero_add],by omega,by rw [<- h];simp,by simp⟩
theorem SlIs.openL {α:Type} {e:Enc α} {T:TypeId} {l:List α} {A:Option Addr} {cap:Nat} {Hl:HL} (h:SlIs e T l A cap Hl) (hz:zeroOff A) (hw:0 < e.w) (hl:0 < l.length):∃ b rest,A=some ⟨b,0,none⟩ /\ Hl=[(b,.rows e.w cap (rowE e (l++rest)) T (0,0))] /\ (l++rest).length=cap:=by
 rcases h with ⟨_,_,rfl,_⟩ | ⟨b,o,full,rfl,rfl,h3,h4,h5⟩
 ·simp at hl
 ·have ho:o=0:=by
   have h6:o * e.w=0:=hz
   rcases Nat.mul_eq_zero.1 h6 with h | h
   ·exact h
   ·omega
  subst ho
  have:l++full.drop l.length=full:=by
   conv=>lhs;lhs;rw [<- h5]
   rw [List.drop_zero,List.take_append_drop]
  refine ⟨b,full.drop l.length,by rw [Nat.zero_mul],?_,by rw [this];omega⟩
  rw [this,Nat.zero_add]
instance decEx (n:Nat) (xs:List Int) (y:Int):Decidable (∃ j,j < n /\ xs.getD j 0=y):=decidable_of_iff (∃ x:Fin n,xs.getD x.1 0=y) ⟨λ ⟨x,h⟩=>⟨x.1,x.2,h⟩,λ ⟨j,h1,h2⟩=>⟨⟨j,h1⟩,h2⟩⟩
theorem has_blk (b m n cap:Nat) (xs:List Int) (y:Int) (F:HL) (hb:(b,.rows 1 m (rowE intE xs) 3 (0,0)) ∈ F) (hn:n <= m) (hm:n <= 100000000):Sp Tryz.prog 206 #[vS b 0 n cap,vI y] [] F (λ u H'=>u=.bool (decide (∃ j,j < n /\ xs.getD j 0=y)) /\ H'=[]):=by
 refine Sp.run Tryz.func206 rfl (mc hb mn) (A:=[]) (Ts:=[]) rfl λ w0=>?_
 refine RN.go 12 [] λ _=>RN.loop (σ:=Nat) (λ i=>⟨[(0,vS b 0 n cap),(1,vI y),(5,vI (i:Int))],[],[],i <= n /\ ∀ j,j < i -> xs.getD j 0 ≠ y,n - i⟩) 0 [] [] (⟨Nat.zero_le _,λ j h=>absurd h (Nat.not_lt_zero _)⟩) ?_
 rintro i ⟨hi_,hx_⟩ mt2
 refine RN.go 9 [] λ _=>RN.em ((i:Int) < (n:Int)) 9 (λ h3=>?_) λ h3=>?_
 ·refine RN.goP 15 [.ix i,.rorow 0 i 0] [(0+i * 1)=i * 1+0 /\ i < m,(i:Int)=((i:Nat):Int) /\ i < n] λ _=>RN.em (xs.getD i 0=y) 17 (λ h4=>?_) λ h4=>?_
  ·refine RN.go 6 [] λ _=>RN.ret [] [] [] (v:=.bool true) (H':=[]) ?_
   refine ⟨?_,rfl⟩
   rw [decide_eq_true (p:=∃ j,j < n /\ xs.getD j 0=y) ⟨i,by omega,by assumption⟩]
  ·refine RN.goP 9 [.nw] [I64 ((i:Int)+1)] λ _=>?_
   refine mt2 (i+1) [] [] ?_
   try dsimp only
   refine ⟨⟨by omega,λ j h=>?_⟩,by omega⟩
   rcases Nat.lt_or_ge j i with h1 | h1
   ·exact hx_ j h1
   ·obtain rfl:j=i:=by omega
    assumption
 ·refine RN.go 11 [] λ _=>RN.ret [] [] [] (v:=.bool false) (H':=[]) ?_
  refine ⟨?_,rfl⟩
  rw [decide_eq_false (p:=∃ j,j < n /\ xs.getD j 0=y) (λ h=>by obtain ⟨j,h1,h2⟩:=h;exact hx_ j (by omega) h2)]
theorem has_nil (A:Option Addr) (cap:Nat) (y:Int) (F:HL):Sp Tryz.prog 206 #[.slice A 0 cap,vI y] [] F (λ u H'=>u=.bool false /\ H'=[]):=by
 refine Sp.run Tryz.func206 rfl mn (A:=[]) (Ts:=[]) rfl λ w0=>?_
 refine RN.go 12 [] λ _=>RN.rounds 1<|RN.go 20 [] λ _=>?_
 exact RN.ret [] [] [] ⟨rfl,rfl⟩
theorem hasI_any {l:List Int} {A:Option Addr} {c:Nat} {T:HL} (y:Int) (F:HL) (hs:SlIs intE 3 l A c T) (hz:zeroOff A) (hl:l.length <= 100000) (hT:∀ x ∈ T,x ∈ F):Sp Tryz.prog 206 #[.slice A l.length c,vI y] [] F (λ u H'=>u=.bool (decide (y ∈ l)) /\ H'=[]):=by
 by_cases h:l=[]
 ·subst h
  exact (has_nil A c y F).mono λ u H' h=>⟨by rw [h.1];simp,h.2⟩
 ·obtain ⟨b,rest,rfl,rfl,hc1⟩:=hs.openL hz (by decide) (List.length_pos_iff.2 h)
  rw [List.length_append] at hc1
  refine (has_blk b c l.length c (l++rest) y F (hT _ (List.mem_singleton.2 rfl)) (by omega) (by omega)).mono λ u H' h=>⟨?_,h.2⟩
  rw [h.1]
  congr 1
  apply decide_eq_decide.2
  constructor
  ·rintro ⟨j,h1,h2⟩
   rw [List.getD_eq_getElem?_getD,List.getElem?_append_left h1,List.getElem?_eq_getElem h1] at h2
   simp only [Option.getD_some] at h2
   rw [<- h2];exact List.getElem_mem _
  ·intro hy
   obtain ⟨j,h1,h2⟩:=List.getElem_of_mem hy
   exact ⟨j,h1,by rw [List.getD_eq_getElem?_getD,List.getElem?_append_left h1,List.getElem?_eq_getElem h1];simpa using h2⟩
theorem note_run (mb cb n:Nat) (A:Option Addr) (c:Nat) (al:List Int) (Hl:HL) (i:Int) (F:HL) (hs:SlIs intE 3 al A c Hl) (hz:zeroOff A) (hn:al.length <= 100000) (hi:i ∈ al) (hT:∀ x ∈ Hl,x ∈ F) (hm:(mb,.lit [vS cb 0 n n,.slice A al.length c,.bool false] 41 (0,0)) ∈ F):Sp Tryz.prog 205 #[vP mb 0,vI i] [] F (λ u H'=>u=.bool (decide (0 <= i /\ i < n)) /\ H'=[]):=by
 refine Sp.run Tryz.func205 rfl (mc hm mn) (A:=[]) (Ts:=[]) rfl λ w0=>?_
 refine RN.go 11 [] λ _=>RN.em (i < 0) 7 (λ h1=>?_) λ h1=>?_
 ·refine RN.go 16 [] λ _=>RN.ret [] [] [] (v:=.bool false) (H':=[]) ?_
  exact ⟨congrArg Value.bool (decide_eq_false (by omega)).symm,rfl⟩
 ·refine RN.go 10 [.ro 0] λ _=>RN.em (i >= (n:Int)) 15 (λ h2=>?_) λ h2=>?_
  ·refine RN.go 6 [] λ _=>RN.ret [] [] [] (v:=.bool false) (H':=[]) ?_
   exact ⟨congrArg Value.bool (decide_eq_false (by omega)).symm,rfl⟩
  ·refine RN.go 11 [.ro 0] λ _=>RN.cp (hasI_any i _ hs hz hn (λ x hx=>ro_ap (hT x hx)))<|RN.go 3 [] λ _=>RN.fx 22 (nt (decide_eq_true hi))<|RN.go 8 [] λ _=>RN.ret [] [] [] (v:=.bool true) (H':=[]) ?_
   exact ⟨congrArg Value.bool (decide_eq_true (by omega)).symm,rfl⟩
theorem get_prb (mb cb:Nat) (A:Option Addr) (c:Nat) (al:List Int) (Hl:HL) (i:Int) (F:HL) (hs:SlIs intE 3 al A c Hl) (hz:zeroOff A) (hn:al.length <= 100000) (hi:i ∈ al) (M:MemS) (hT:∀ x ∈ Hl,x ∈ F) (hm:(mb,.lit [vS cb 0 M.cs.length M.cs.length,.slice A al.length c,.bool false] 41 (0,0)) ∈ F) (hcb:(cb,.rows 1 M.cs.length (irow M.cs) 3 (0,0)) ∈ F) (hc:M.cs.length <= 1000000):Sp Tryz.prog 203 #[vP mb 0,vI i] [] F (λ u H'=>u=vI (M.get i) /\ H'=[]):=by
 refine Sp.run Tryz.func203 rfl (mc hm (mc hcb mn)) (A:=[]) (Ts:=[]) rfl λ w0=>?_
 refine RN.go 9 [] λ _=>RN.cp (note_run mb cb M.cs.length A c al Hl i _ hs hz hn hi (λ x hx=>ro_ap (hT x hx)) (ro_ap hm))<|RN.go 10 [] λ _=>RN.en (0 <= i /\ i < M.cs.length) 10 (λ h1=>?_) λ h1=>?_
 ·refine RN.goP 15 [.ro 0,.ix ((i).toNat),.rorow 1 ((i).toNat) 0] [(0+((i).toNat) * 1)=((i).toNat) * 1+0 /\ ((i).toNat) < M.cs.length,i=(((i).toNat:Nat):Int) /\ (i).toNat < M.cs.length] λ _=>RN.ret [] [] [] (v:=vI (M.cs.getD ((i).toNat) 0)) (H':=[]) ?_
  exact ⟨by simp [MemS.get, *],rfl⟩
 ·refine RN.go 6 [] λ _=>RN.ret [] [] [] (v:=vI 0) (H':=[]) ?_
  exact ⟨by simp [MemS.get, *],rfl⟩
theorem set_prb (mb cb k:Nat) (A:Option Addr) (c:Nat) (al:List Int) (Hl:HL) (i v:Int) (F:HL) (hs:SlIs intE 3 al A c Hl) (hz:zeroOff A) (hn:al.length <= 100000) (hi:i ∈ al) (D:Int -> Prop) (hD:∀ i,D i -> i ∈ al) (M:MemS) (hc:M.cs.length <= 1000000):Sp Tryz.prog 204 #[vP mb 0,vI i,vI v] (ap [(mb,.lit [vS cb 0 M.cs.length M.cs.length,.slice A al.length c,.bool false] 41 (0,0)),(cb,.rows 1 M.cs.length (irow M.cs) 3 (0,0))] [Hl]) F (λ u H'=>MemK .prb D mb (M.set i v) k H'):=by
 refine Sp.run Tryz.func204 rfl mn (A:=[(mb,.lit [vS cb 0 M.cs.length M.cs.length,.slice A al.length c,.bool false] 41 (0,0)),(cb,.rows 1 M.cs.length (irow M.cs) 3 (0,0))]) (Ts:=[Hl]) rfl λ w0=>?_
 refine RN.go 4 [] λ _=>RN.cp (note_run mb cb M.cs.length A c al Hl i _ hs hz hn hi (sub_ap 0) (in_ap 0))<|RN.go 8 [] λ _=>RN.em (0 <= i /\ i < M.cs.length) 10 (λ h1=>?_) λ h1=>?_
 ·refine RN.goP 11 [.own 0,.ix ((i).toNat),.row 1 ((i).toNat) 0] [(0+((i).toNat) * 1)=((i).toNat) * 1+0 /\ ((i).toNat) < M.cs.length,i=(((i).toNat:Nat):Int) /\ (i).toNat < M.cs.length] λ _=>RN.ret [] [0,1] [0] (v:=.tuple #[]) (H':=(ap [(mb,.lit [vS cb 0 M.cs.length M.cs.length,.slice A al.length c,.bool false] 41 (0,0)),(cb,.rows 1 M.cs.length (updG (irow M.cs) ((i).toNat) 0 (vI v)) 3 (0,0))] [Hl])) ?_
  have e:M.set i v=⟨M.cs.set i.toNat v,M.lg++[(i,M.cs.getD i.toNat 0)],M.base⟩:=by unfold MemS.set;rw [if_pos (by assumption)]
  rw [e,irow_set (by omega)]
  have:=MemK.pr (D:=D) (mb:=mb) (M:=⟨M.cs.set i.toNat v,M.lg++[(i,M.cs.getD i.toNat 0)],M.base⟩) (k:=k) cb A c al Hl hs hz hn hD (by simpa using hc)
  simpa using this
 ·refine RN.go 2 [] λ _=>RN.ret [] [0,1] [0] (v:=.tuple #[]) (H':=(ap [(mb,.lit [vS cb 0 M.cs.length M.cs.length,.slice A al.length c,.bool false] 41 (0,0)),(cb,.rows 1 M.cs.length (irow M.cs) 3 (0,0))] [Hl])) ?_
  have e:M.set i v=M:=by unfold MemS.set;rw [if_neg (by assumption)]
  rw [e]
  exact .pr cb A c al Hl hs hz hn hD hc
theorem get_any {K:Kd} {D:Int -> Prop} {mb:Nat} {M:MemS} {k:Nat} {T:HL} (i:Int) {F:HL} (h:MemK K D mb M k T) (hd:D i) (hs:∀ x ∈ T,x ∈ F):Sp Tryz.prog K.getF #[vP mb 0,vI i] [] F (λ u H'=>u=vI (M.get i) /\ H'=[]):=by
 cases h with
 | mk cb A cap Hl h1 hc hl=>exact get_mm (D:=D) i (.mk cb A cap Hl h1 hc hl) hs
 | pr cb A c al Hl h1 hz hn hD hc=>exact get_prb mb cb A c al Hl i F h1 hz hn (hD i hd) M (λ x hx=>hs x (by simp [hx])) (hs _ (by simp)) (hs _ (by simp)) hc
theorem get_lit {K:Kd} {D:Int -> Prop} {mb:Nat} {M:MemS} {k:Nat} {T:HL} (i:Int) {c:Int} (e:M.get i=c) {F:HL} (h:MemK K D mb M k T) (hd:D i) (hs:∀ x ∈ T,x ∈ F):Sp Tryz.prog K.getF #[vP mb 0,vI i] [] F (λ u H'=>u=vI c /\ H'=[]):=e ▸ get_any i h hd hs
theorem set_any {K:Kd} {D:Int -> Prop} {mb:Nat} {M:MemS} {k:Nat} {T:HL} (i v:Int) {F:HL} (h:MemK K D mb M (k+1) T) (hd:D i):Sp Tryz.prog K.setF #[vP mb 0,vI i,vI v] (ap [] [T]) F (λ u H'=>∃ x,H'=ap ((λ _=>[]) x) ((λ x=>[x]) x) /\ MemK K D mb (M.set i v) k x):=by
 cases h with
 | mk cb A cap Hl h1 hc hl=>exact set_mm i v (.mk cb A cap Hl h1 hc hl)
 | pr cb A c al Hl h1 hz hn hD hc =>
  have e:∀ T:HL,ap [] [T]=T:=λ T=>by simp
  rw [e]
  exact (set_prb mb cb k A c al Hl i v F h1 hz hn (hD i hd) D hD M hc).mono λ u H' h=>⟨H',(e H').symm,h⟩
abbrev DLo (D:Int -> Prop):Prop:=∀ i:Int,0 <= i -> i < 14 -> D i
abbrev DPl (D:Int -> Prop) (S:Setup) (k:Int):Prop:=0 <= playerAt S k -> ∀ c:Int,0 <= c -> c < 4 -> D (playerAt S k+c)
abbrev DBd (D:Int -> Prop) (S:Setup) (k:Int):Prop:=0 <= bodyAt S k -> ∀ c:Int,0 <= c -> c < 8 -> D (bodyAt S k+c)
theorem bodyAt_nn {S:Setup} {k:Int} (h:SetN S) (hk:0 <= k /\ k < S.nb):0 <= bodyAt S k:=by
 have:=h.pl
 unfold bodyAt
 rw [if_neg (by omega),if_neg (by omega)]
 omega
section
variable {r:Option Nat} {P:Program} {N:Nat} {D:List Deferred} {F:HL} {w0:World} {R:HL} {s:Cfg} {Q:Exit -> Act -> World -> Prop} {hards:List Nat} {Rd:HL} {f:FuncId} {args:Array Value}
theorem RN.cpK {v:Value} (hc:Sp P f args [] (ap s.A s.Ts++F) (λ u H'=>u=v /\ H'=[])) (hk:RN r P N D F w0 R (putC N v s) Q)
  (h:∀ n0,callK N s (callR P n0 N R s)=some (f,args,[],[],s.A):=by intro n0;cases ‹Kd› <;> kernel_rfl):RN r P N D F w0 R s Q:=.cp hc hk h
theorem RN.ctK {τ:Type} (ip jp:List Nat) {Hp:HL} {Tp:List HL} {Hq:τ -> HL} {Tq:τ -> List HL} {Rv:Value -> τ -> Prop}
  (hc:Sp P f args (ap Hp Tp) (ap (othA ip s) (othT jp s)++F) (λ v H'=>∃ x,H'=ap (Hq x) (Tq x) /\ Rv v x)) (hk:∀ v x,Rv v x -> RN r P N D F w0 R (aftC N ip jp (Hq x) (Tq x) v s) Q)
  (h:∀ n0,callK N s (callR P n0 N R s)=some (f,args,[],[],s.A):=by intro n0;cases ‹Kd› <;> kernel_rfl)
  (hp:permOk ip jp s=true:=by kernel_rfl) (hH:picks ip jp s=(Hp,Tp):=by kernel_rfl):RN r P N D F w0 R s Q:=.ct ip jp hc hk h hp hH
theorem RD.cpK (ix:List Nat) (i:Nat) {v:Value} (hc:∀ X,Sp P f args [] (X++(ap s.A s.Ts++F)) (λ u H'=>u=v /\ H'=[])) (hk:RD r P N D F w0 R hards Rd (dpC N i v s) Q)
  (h:dcK N hards i s (dcR P N R i s)=some (f,args,[],[],nfree (dLst s)):=by cases ‹Kd› <;> kernel_rfl) (hix:rdOf ix s=Rd:=by kernel_rfl):RD r P N D F w0 R hards Rd s Q:=.cp ix i hc hk h hix
theorem RDO.ctK {τ:Type} {i:Nat} (ix ip jp:List Nat) {Hp:HL} {Tp:List HL} {Hq:τ -> HL} {Tq:τ -> List HL} {Rv:Value -> τ -> Prop}
  (hc:Sp P f args (ap Hp Tp) (ap (othA ip s) (othT jp s)++F) (λ v H'=>∃ x,H'=ap (Hq x) (Tq x) /\ Rv v x)) (hk:∀ v x,Rv v x -> RD r P N D F w0 R hards Rd (setH (λ A=>Hq x++(oth ip A.length).filterMap (A[·]?)) (λ Ts=>Tq x++(oth jp Ts.length).filterMap (Ts[·]?)) (dpC N i v s)) Q)
  (h:∀ n0,callK N s (dkR P n0 N R i s)=some (f,args,[],[],ap s.A s.Ts):=by intro n0;cases ‹Kd› <;> kernel_rfl)
  (hp:permOk ip jp s=true:=by kernel_rfl) (hH:picks ip jp s=(Hp,Tp):=by kernel_rfl) (hx:dsoft (hards.contains i) ix ip jp s Rd=Rd:=by kernel_rfl):RDO r P N D F w0 R hards Rd i s Q:=.ct ix ip jp hc hk h hp hH hx
end
end Go.Proofs.YtkhifpbokgabbaaGreatDoor
