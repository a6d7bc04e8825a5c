import Derived.Test.YtobflkidpfkcaaaGreatDoorY12
import Derived.Test.YtobflkidpfkcaaaGreatDoorY04
set_option maxHeartbeats 4000000
set_option maxRecDepth 100000
set_option linter.unusedSimpArgs false
set_option linter.unusedVariables false
namespace Go.Proofs.YtobflkidpfkcaaaGreatDoor
open Go.RowKit
def uA (cs:List Int) (i:Nat):List Int:=cs.take i++List.replicate (cs.length - i) 0
theorem sB (n:Nat):iU [vI 0]=aO (List.replicate n 0):=by
 funext i k
 rcases k with _ | k
 ·have:(List.replicate n (0:Int)).getD i 0=0:=by
   rw [List.getD_eq_getElem?_getD,List.getElem?_replicate];split <;> rfl
  show vI 0=vI _
  rw [this]
 ·simp [iU,aO]
theorem vH (cs:List Int):iU [vI 0]=aO (uA cs 0):=by rw [sB cs.length];simp [uA]
theorem zY (cs:List Int):uA cs cs.length=cs:=by simp [uA]
theorem vJ {cs:List Int} {i:Nat} (h:i < cs.length):dT (aO (uA cs i)) i 0 (vI (cs.getD i 0))=aO (uA cs (i+1)):=by
 rw [gj (by simp [uA];omega)]
 congr 1
 unfold uA
 rw [List.set_append_right _ _ (by simp;omega)]
 have e:cs.length - i=(cs.length - (i+1))+1:=by omega
 rw [e,List.replicate_succ,List.take_succ_eq_append_getElem h,List.append_assoc]
 simp [List.length_take,Nat.min_eq_left (Nat.le_of_lt h),h]
theorem MemH.len {mb:Nat} {M:MemS} {k:Nat} {T:HL} (h:MemH mb M k T):M.cs.length <= 1000000:=by
 cases h with
 | mk cb A cap Hl hs hc hl=>exact hc
theorem Iq (mb cb n:Nat) (A:Option Addr) (m cap:Nat) (base:Int) (F:HL) (hm:(mb,.lit [vS cb 0 n n,.slice A m cap,vI base] 167 (0,0)) ∈ F):Sp Tryz.prog 81 #[vP mb 0] [] F (λ u H'=>u=vI (n:Int) /\ H'=[]):=by
 refine Sp.run Tryz.func81 rfl (mc hm mn) (A:=[]) (Ts:=[]) rfl λ w0=>?_
 refine ae 15 [.ro 0] λ _=>?_
 exact RN.ret [] [] [] ⟨rfl,rfl⟩
theorem t7 {mb:Nat} {M:MemS} {k:Nat} {T:HL} {F:HL} (h:MemH mb M k T) (hs:∀ x ∈ T,x ∈ F):Sp Tryz.prog 81 #[vP mb 0] [] F (λ u H'=>u=vI (M.cs.length:Int) /\ H'=[]):=by
 cases h with
 | mk cb A cap Hl hsl hc hl=>exact Iq mb cb M.cs.length A M.lg.length cap M.base F (hs _ (by simp))
theorem Ir {M:MemS} {i:Nat} (h:i < M.cs.length):M.get (i:Int)=M.cs.getD i 0:=by
 unfold MemS.get
 rw [if_pos (by omega),Int.toNat_natCast]
theorem Cm (mb:Nat) (M:MemS) (k:Nat) (T F:HL) (hM:MemH mb M k T) (hT:∀ x ∈ T,x ∈ F):Sp Tryz.prog 50 #[vP mb 0] (ap [] []) F (λ u H'=>∃ q,H'=ap [(q,.rows 1 M.cs.length (aO M.cs) 3 (0,0))] [] /\ u=vS q 0 M.cs.length M.cs.length):=by
 have hl:=hM.len
 refine Sp.run Tryz.func50 rfl mn (A:=[]) (Ts:=[]) rfl λ w0=>?_
 refine ae 8 [] λ _=>aj (t7 hM (λ x hx=>List.mem_append_right _ (hT x hx)))<|ai 8 [.mk M.cs.length M.cs.length] [(M.cs.length:Int)=((M.cs.length:Nat):Int) /\ (M.cs.length:Int)=((M.cs.length:Nat):Int) /\ M.cs.length <= M.cs.length /\ 8 * M.cs.length <= 140737488355328 /\ 1=1 /\ M.cs.length <= 9223372036854775807] λ n1=>aj (t7 hM (λ x hx=>List.mem_append_right _ (hT x hx)))<|ae 4 [] λ _=>cS 0 (congrArg (λ v_=>(.rows 1 M.cs.length v_ 3 (0,0):Blk)) (show (iU [vI 0])=(aO (uA M.cs 0)) from (by rw [vH M.cs])))<|RN.loop (σ:=Nat) (λ i=>⟨[(0,vP mb 0),(3,vS (n1+0) 0 M.cs.length M.cs.length),(9,vI (M.cs.length:Int)),(10,vI (i:Int))],[((n1+0),.rows 1 M.cs.length (aO (uA M.cs i)) 3 (0,0))],[],i <= M.cs.length,M.cs.length - i⟩) 0 [0] [] (Nat.zero_le _) ?_
 rintro i hI2 mt3
 refine ae 6 [] λ _=>RN.em ((i:Int) < (M.cs.length:Int)) 11 (λ h4=>?_) λ h4=>?_
 ·refine ae 16 [] λ _=>aj (az (i:Int) hM (λ x hx=>List.mem_append_right _ (hT x hx)))<|ai 9 [.ix i,.row 0 i 0,.nw] [bg ((i:Int)+1),(0+i * 1)=i * 1+0 /\ i < M.cs.length,(i:Int)=((i:Nat):Int) /\ i < M.cs.length] λ _=>cS 0 (congrArg (λ v_=>(.rows 1 M.cs.length v_ 3 (0,0):Blk)) (show (dT (aO (uA M.cs i)) i 0 (vI (M.get (i:Int))))=(aO (uA M.cs (i+1))) from (by rw [<- vJ (cs:=M.cs) (i:=i) (by omega)];rw [Ir (by omega)]))) ?_
  refine mt3 (i+1) [0] [] ?_
  try dsimp only
  exact ⟨by omega,by omega⟩
 ·refine ae 12 [] λ _=>RN.ret [] [0] [] (v:=vS (n1+0) 0 M.cs.length M.cs.length) (H':=[((n1+0),.rows 1 M.cs.length (aO (uA M.cs i)) 3 (0,0))]) ?_
  have ei:i=M.cs.length:=by omega
  subst ei
  exact ⟨_,by rw [zY];rfl,rfl⟩
theorem Iu (q:Nat) (cs:List Int) (k cap:Nat) (F:HL) (hq:(q,.rows 1 cs.length (aO cs) 3 (0,0)) ∈ F) (hc:cs.length <= 1000000) (hk:k <= 100000000) (hcap:cs.length <= cap):Sp Tryz.prog 43 #[vS q 0 cs.length cap] [] F (λ u H'=>∃ x:Nat × HL,H'=ap [] [x.2] /\ (u=vP x.1 0 /\ MemH x.1 ⟨cs,[],0⟩ k x.2)):=by
 refine Sp.run Tryz.func43 rfl (mc hq mn) (A:=[]) (Ts:=[]) rfl λ w0=>?_
 refine ai 24 [.mk cs.length cs.length] [(cs.length:Int)=((cs.length:Nat):Int) /\ (cs.length:Int)=((cs.length:Nat):Int) /\ cs.length <= cs.length /\ 8 * cs.length <= 140737488355328 /\ 1=1 /\ cs.length <= 9223372036854775807] λ n1=>cS 1 (congrArg (λ v_=>(.rows 1 cs.length v_ 3 (0,0):Blk)) (show (iU [vI 0])=(aO (uA cs 0)) from (by rw [vH cs])))<|RN.loop (σ:=Nat) (λ i=>⟨[(0,vS q 0 cs.length cap),(3,vP (n1+1) 0),(11,vI (cs.length:Int)),(12,vI (i:Int))],[((n1+1),.lit [vS (n1+0) 0 cs.length cs.length,.slice none 0 0,vI 0] 167 (0,0)),((n1+0),.rows 1 cs.length (aO (uA cs i)) 3 (0,0))],[],i <= cs.length,cs.length - i⟩) 0 [0,1] [] (Nat.zero_le _) ?_
 rintro i hI2 mt3
 refine ae 6 [] λ _=>RN.em ((i:Int) < (cs.length:Int)) 13 (λ h4=>?_) λ h4=>?_
 ·refine ae 11 [] λ _=>RN.draw [10] []<|aJ [] [0,4,5,6,1,7,2,8,3,9] [.ix i,.rorow 0 i 0,.own 0,.ix i] [(i:Int)=((i:Nat):Int) /\ i < cs.length,(0+i * 1)=i * 1+0 /\ i < cs.length,(i:Int)=((i:Nat):Int) /\ i < cs.length]<|RD.one 10 (d9 [] [.row 1 i 0] [(0+i * 1)=i * 1+0 /\ i < cs.length] λ _=>?_)
  refine RD.fin<|ai 6 [.nw] [bg ((i:Int)+1)] λ _=>cS 1 (congrArg (λ v_=>(.rows 1 cs.length v_ 3 (0,0):Blk)) (show (dT (aO (uA cs i)) i 0 (vI (cs.getD i 0)))=(aO (uA cs (i+1))) from (by rw [<- vJ (cs:=cs) (i:=i) (by omega)]))) ?_
  refine mt3 (i+1) [0,1] [] ?_
  try dsimp only
  exact ⟨by omega,by omega⟩
 ·refine ae 12 [] λ _=>RN.ret [] [0,1] [] (v:=vP (n1+1) 0) (H':=[((n1+1),.lit [vS (n1+0) 0 cs.length cs.length,.slice none 0 0,vI 0] 167 (0,0)),((n1+0),.rows 1 cs.length (aO (uA cs i)) 3 (0,0))]) ?_
  have ei:i=cs.length:=by omega
  subst ei
  rw [zY]
  have hmm:=MemH.mk (mb:=(n1+1)) (M:=⟨cs,[],0⟩) (k:=k) (n1+0) none 0 [] (SlIs.nil _ _) hc (show ([]:List (Int × Int)).length+k <= 100000000 by simpa using hk)
  exact ⟨((n1+1),_),rfl,rfl,hmm⟩
def aC (n most:Int):Int:=(if n < 0 then bd (0 - bd (n+1)) else n).tmod most
theorem iE (n:Int) (most:Int) (h0:most ≠ 0) (F:HL):Sp Tryz.prog 15 #[vI n,vI most] [] F (λ u H'=>u=vI (aC n most) /\ H'=[]):=by
 refine Sp.run Tryz.func15 rfl mn (A:=[]) (Ts:=[]) rfl λ w0=>?_
 refine ae 12 [] λ _=>RN.em (n < 0) 6 (λ h1=>?_) λ h1=>?_
 ·refine pX 16 [.gen,.dv] (λ _=>[most ≠ 0]) (λ _=>(ac h0 an)) λ _=>RN.ret [] [] [] (v:=vI ((IntKind.i64.wrap (0 - (IntKind.i64.wrap (n+1)))).tmod most)) (H':=[]) ?_
  exact ⟨by unfold aC;simp [*],rfl⟩
 ·refine pX 11 [.dv] (λ _=>[most ≠ 0]) (λ _=>(ac h0 an)) λ _=>RN.ret [] [] [] (v:=vI (n.tmod most)) (H':=[]) ?_
  exact ⟨by unfold aC;simp [*],rfl⟩
def qj (n:Int):Int:=aC n 1000
def nT (n:Int):Int:=bd (512 * bd (1+(bd ((qj n).tdiv 7)).tmod 5))
def rN (r:Int):List V2:=[⟨bd (0 - r),bd (0 - r)⟩,⟨r,bd (0 - r)⟩,⟨r,r⟩,⟨bd (0 - r),r⟩]
def vK (r:Int):List V2:=[⟨bd (0 - r),bd (0 - r)⟩,⟨r,bd (0 - r)⟩,⟨0,r⟩]
def vL (r:Int):List V2:=[⟨bd (-2 * r),-300⟩,⟨bd (2 * r),-300⟩,⟨bd (2 * r),300⟩,⟨bd (-2 * r),300⟩]
def cK (n:Int):Int × List V2:=if (qj n).tmod 7=0 then (nT n,[]) else if (qj n).tmod 7=1 then (nT n,[]) else if (qj n).tmod 7=2 then (nT n,[]) else if (qj n).tmod 7=3 then (0,rN (nT n)) else if (qj n).tmod 7=4 then (0,rN (nT n)) else if (qj n).tmod 7=5 then (0,vK (nT n)) else (0,vL (nT n))
def ShH (s:Shp) (T:HL):Prop:=∀ F,(∀ x ∈ T,x ∈ F) -> ShIn F s
theorem ShH.circle (r:Int) (A:Option Addr) (cap:Nat):ShH ⟨r,[],A,cap⟩ []:=λ F _=>.circle r A cap
theorem ShH.poly (r:Int) (l:List V2) (b cap:Nat) (h3:3 <= l.length) (h4:l.length <= cap) (h5:l.length <= 1000000):ShH ⟨r,l,some ⟨b,0,none⟩,cap⟩ [(b,.rows 2 cap (jz l) 30 (0,0))]:=λ F h=>.poly r l b cap (h _ (by simp)) h3 h4 h5
theorem vM (n:Int) (F:HL):Sp Tryz.prog 16 #[vI n] [] F (λ u H'=>∃ x:Option Addr × Nat × HL,H'=ap [] [x.2.2] /\ (u=L3 ⟨(cK n).1,(cK n).2,x.1,x.2.1⟩ /\ ShH ⟨(cK n).1,(cK n).2,x.1,x.2.1⟩ x.2.2)):=by
 refine Sp.run Tryz.func16 rfl mn (A:=[]) (Ts:=[]) rfl λ w0=>?_
 refine ae 8 [] λ n1=>aj (iE n 1000 (by decide) _)<|ae 28 [] λ _=>RN.em ((qj n).tmod 7=0) 14 (λ h2=>?_) λ h2=>?_
 ·refine ae 11 [.own 0,.own 0] λ _=>RN.ret [.own 0,.own 0] [] [] (v:=.agg #[vI (IntKind.i64.wrap (512 * (IntKind.i64.wrap (1+((IntKind.i64.wrap ((qj n).tdiv 7)).tmod 5))))),.slice none 0 0]) (H':=[]) ?_
  have e:cK n=(nT n,[]):=by simp only [cK,if_pos h2]
  rw [e]
  exact ⟨(none,0,[]),rfl,rfl,ShH.circle _ _ _⟩
 ·refine ae 7 [] λ _=>RN.em ((qj n).tmod 7=1) 14 (λ h3=>?_) λ h3=>?_
  ·refine ae 11 [.own 0,.own 0] λ _=>RN.ret [.own 0,.own 0] [] [] (v:=.agg #[vI (IntKind.i64.wrap (512 * (IntKind.i64.wrap (1+((IntKind.i64.wrap ((qj n).tdiv 7)).tmod 5))))),.slice none 0 0]) (H':=[]) ?_
   have e:cK n=(nT n,[]):=by simp only [cK,if_neg h2,if_pos h3]
   rw [e]
   exact ⟨(none,0,[]),rfl,rfl,ShH.circle _ _ _⟩
  ·refine ae 6 [] λ _=>RN.em ((qj n).tmod 7=2) 14 (λ h4=>?_) λ h4=>?_
   ·refine ae 8 [.own 0,.own 0] λ _=>RN.ret [.own 0,.own 0] [] [] (v:=.agg #[vI (IntKind.i64.wrap (512 * (IntKind.i64.wrap (1+((IntKind.i64.wrap ((qj n).tdiv 7)).tmod 5))))),.slice none 0 0]) (H':=[]) ?_
    have e:cK n=(nT n,[]):=by simp only [cK,if_neg h2,if_neg h3,if_pos h4]
    rw [e]
    exact ⟨(none,0,[]),rfl,rfl,ShH.circle _ _ _⟩
   ·refine ae 8 [] λ _=>RN.em ((qj n).tmod 7=3) 20 (λ h5=>?_) λ h5=>?_
    ·refine ae 27 [.own 1,.own 1] λ n6=>RN.dn 0 (.rows 2 4 (jz (rN (nT n))) 30 (0,0))<|RN.ret [.own 1,.own 1] [0] [] (v:=.agg #[vI 0,vS (n6+0) 0 4 4]) (H':=[((n6+0),.rows 2 4 (jz (rN (nT n))) 30 (0,0))]) ?_
     have e:cK n=(0,rN (nT n)):=by simp only [cK,if_neg h2,if_neg h3,if_neg h4,if_pos h5]
     rw [e]
     exact ⟨(some ⟨(n6+0),0,none⟩,4,_),rfl,rfl,ShH.poly 0 (rN (nT n)) (n6+0) 4 (Nat.le_of_ble_eq_true rfl) (Nat.le_of_ble_eq_true rfl) (Nat.le_of_ble_eq_true rfl)⟩
    ·refine ae 6 [] λ _=>RN.em ((qj n).tmod 7=4) 20 (λ h7=>?_) λ h7=>?_
     ·refine ae 24 [.own 1,.own 1] λ n8=>RN.dn 0 (.rows 2 4 (jz (rN (nT n))) 30 (0,0))<|RN.ret [.own 1,.own 1] [0] [] (v:=.agg #[vI 0,vS (n8+0) 0 4 4]) (H':=[((n8+0),.rows 2 4 (jz (rN (nT n))) 30 (0,0))]) ?_
      have e:cK n=(0,rN (nT n)):=by simp only [cK,if_neg h2,if_neg h3,if_neg h4,if_neg h5,if_pos h7]
      rw [e]
      exact ⟨(some ⟨(n8+0),0,none⟩,4,_),rfl,rfl,ShH.poly 0 (rN (nT n)) (n8+0) 4 (Nat.le_of_ble_eq_true rfl) (Nat.le_of_ble_eq_true rfl) (Nat.le_of_ble_eq_true rfl)⟩
     ·refine ae 7 [] λ _=>RN.em ((qj n).tmod 7=5) 41 (λ h9=>?_) λ h9=>?_
      ·refine ae 19 [.own 1,.own 1] λ n10=>RN.dn 0 (.rows 2 3 (jz (vK (nT n))) 30 (0,0))<|RN.ret [.own 1,.own 1] [0] [] (v:=.agg #[vI 0,vS (n10+0) 0 3 3]) (H':=[((n10+0),.rows 2 3 (jz (vK (nT n))) 30 (0,0))]) ?_
       have e:cK n=(0,vK (nT n)):=by simp only [cK,if_neg h2,if_neg h3,if_neg h4,if_neg h5,if_neg h7,if_pos h9]
       rw [e]
       exact ⟨(some ⟨(n10+0),0,none⟩,3,_),rfl,rfl,ShH.poly 0 (vK (nT n)) (n10+0) 3 (Nat.le_of_ble_eq_true rfl) (Nat.le_of_ble_eq_true rfl) (Nat.le_of_ble_eq_true rfl)⟩
      ·refine ae 23 [.own 1,.own 1] λ n11=>RN.dn 0 (.rows 2 4 (jz (vL (nT n))) 30 (0,0))<|RN.ret [.own 1,.own 1] [0] [] (v:=.agg #[vI 0,vS (n11+0) 0 4 4]) (H':=[((n11+0),.rows 2 4 (jz (vL (nT n))) 30 (0,0))]) ?_
       have e:cK n=(0,vL (nT n)):=by simp only [cK,if_neg h2,if_neg h3,if_neg h4,if_neg h5,if_neg h7,if_neg h9]
       rw [e]
       exact ⟨(some ⟨(n11+0),0,none⟩,4,_),rfl,rfl,ShH.poly 0 (vL (nT n)) (n11+0) 4 (Nat.le_of_ble_eq_true rfl) (Nat.le_of_ble_eq_true rfl) (Nat.le_of_ble_eq_true rfl)⟩
theorem nU {S:Setup} (h:SetN S) {i:Nat} (hi:i < S.nb):0 <= af S i /\ af S i+8 <= sizeOf S /\ sizeOf S <= 20000000:=by
 have:=h.pl
 have:=h.nb
 unfold af sizeOf
 rw [if_neg (by omega),if_neg (by omega)]
 omega
theorem Cn {S:Setup} (h:SetN S):48 <= sizeOf S /\ sizeOf S <= 20000000:=by
 have:=h.pl
 have:=h.nb
 unfold sizeOf
 omega
def eA (S:Setup):Nat -> List Int
 | 0=>List.replicate (sizeOf S).toNat 0
 | i+1=>((((((eA S i).set (af S i).toNat (S.body i).mot.px).set (af S i+1).toNat (S.body i).mot.py).set (af S i+2).toNat (S.body i).mot.vx).set (af S i+3).toNat (S.body i).mot.vy).set (af S i+4).toNat (S.body i).a).set (af S i+5).toNat (S.body i).b
theorem gv (S:Setup):∀ i,(eA S i).length=(sizeOf S).toNat
 | 0=>by simp [eA]
 | i+1=>by simp [eA,gv S i]
theorem Co {S:Setup} (h:SetN S) {i:Nat} (hi:i < S.nb):dT (dT (dT (dT (dT (dT (aO (eA S i)) (af S i).toNat 0 (vI (S.body i).mot.px)) (af S i+1).toNat 0 (vI (S.body i).mot.py)) (af S i+2).toNat 0 (vI (S.body i).mot.vx)) (af S i+3).toNat 0 (vI (S.body i).mot.vy)) (af S i+4).toNat 0 (vI (S.body i).a)) (af S i+5).toNat 0 (vI (S.body i).b)=aO (eA S (i+1)):=by
 have:=nU h hi
 rw [gj,gj,gj,gj,gj,gj,eA] <;> (simp only [List.length_set,gv];omega)
def yp:Enc Int:=⟨1,λ p k=>match k with | 0=>vI p | _=>vI p,0⟩
noncomputable def JU:TypeInfo:=match Tryz.prog.info? 3 with | some i=>i | none=>⟨.bool,"",0,0,false,0,0,none,false,#[]⟩
noncomputable def JV:Value:=match JU.zero with | some z=>z | none=>.bool false
theorem EU:EncOk yp Tryz.prog 3 JU JV where
 info:=by kernel_rfl
 zero:=by kernel_rfl
 size:=by kernel_rfl
 zsize:=by kernel_rfl
 zcell:=λ k hk=>by
  have h:∀ k < 1,JV.cells[k]?=some (yp.cell yp.dflt k):=by intro k hk;(iterate 1 (rcases k with _ | k;· kernel_rfl));omega
  exact h k hk
 one:=λ x k=>by unfold yp;dsimp only;split <;> rfl
 bytes:=Nat.le_of_ble_eq_true (by kernel_rfl)
abbrev mr (n:Int):Prop:=-9223372036854775808 <= n /\ n <= 9223372036854775807
theorem dF {n:Int} (hn:mr n) (most:Int) (h:0 < most):0 <= aC n most /\ aC n most < most:=by
 unfold aC
 have hx:0 <= (if n < 0 then bd (0 - bd (n+1)) else n):=by
  split
  ·rw [cV (x:=n+1) (by omega),cV (by omega)];omega
  ·omega
 exact ⟨Int.tmod_nonneg _ hx,Int.tmod_lt_of_pos _ h⟩
inductive ArgL (F:HL):Option Addr -> Nat -> List Int -> Prop
 | zero (A:Option Addr):ArgL F A 0 []
 | cells (q o N:Nat) (g:Nat -> Nat -> Value) (ty:TypeId) (fz:Nat × Nat) (xs:List Int) (hq:(q,.rows 1 N g ty fz) ∈ F) (ho:o+xs.length <= N) (hx:∀ k,k < xs.length -> g (o+k) 0=vI (xs.getD k 0)) (hb:∀ k,k < xs.length -> mr (xs.getD k 0)):ArgL F (some ⟨q,o,none⟩) xs.length xs
theorem ArgL.up {F X:HL} {A:Option Addr} {n:Nat} {xs:List Int} (h:ArgL F A n xs):ArgL (X++F) A n xs:=by
 cases h with
 | zero=>exact .zero _
 | cells q o N g ty fz xs hq ho hx hb=>exact .cells q o N g ty fz xs (List.mem_append_right _ hq) ho hx hb
theorem ArgL.len {F:HL} {A:Option Addr} {n:Nat} {xs:List Int} (h:ArgL F A n xs):xs.length=n:=by
 cases h <;> rfl
theorem ArgL.at {F:HL} {A:Option Addr} {n:Nat} {xs:List Int} (h:ArgL F A n xs) {k:Nat} (hk:k < n):∃ q o N g ty fz,A=some ⟨q,o,none⟩ /\ (q,.rows 1 N g ty fz) ∈ F /\ o+k < N /\ g (o+k) 0=vI (xs.getD k 0) /\ mr (xs.getD k 0):=by
 cases h with
 | zero=>omega
 | cells q o N g ty fz xs hq ho hx hb=>exact ⟨q,o,N,g,ty,fz,rfl,hq,by omega,hx k hk,hb k hk⟩
def kv (xs:List Int) (i:Nat):Int:=if i < xs.length then aC (xs.getD i 0) 1000000 else 0
theorem gM {F:HL} {A:Option Addr} {n:Nat} {xs:List Int} (h:ArgL F A n xs) (i:Nat):0 <= kv xs i /\ kv xs i < 1000000:=by
 unfold kv
 split
 ·next hi =>
  rw [h.len] at hi
  obtain ⟨_,_,_,_,_,_,_,_,_,_,hr⟩:=h.at hi
  exact dF hr 1000000 (by decide)
 ·omega
def ks (xs:List Int) (n:Nat):List Int:=(List.range n).map (kv xs)
theorem ms (xs:List Int) (n:Nat):(ks xs n).length=n:=by simp [ks]
theorem zZ (xs:List Int) (n:Nat):ks xs (n+1)=ks xs n++[kv xs n]:=by simp [ks,List.range_succ]
theorem KV {xs:List Int} {n i:Nat} (h:i < n):(ks xs n).getD i 0=kv xs i:=by simp [ks,h]
structure Dr where (a b:Int)
def kM:Enc V2:=⟨2,λ p k=>match k with | 0=>vI p.x | _=>vI p.y,⟨0,0⟩⟩
noncomputable def JW:TypeInfo:=match Tryz.prog.info? 30 with | some i=>i | none=>⟨.bool,"",0,0,false,0,0,none,false,#[]⟩
noncomputable def JX:Value:=match JW.zero with | some z=>z | none=>.bool false
theorem yq:EncOk kM Tryz.prog 30 JW JX where
 info:=by kernel_rfl
 zero:=by kernel_rfl
 size:=by kernel_rfl
 zsize:=by kernel_rfl
 zcell:=λ k hk=>by
  have h:∀ k < 2,JX.cells[k]?=some (kM.cell kM.dflt k):=by intro k hk;(iterate 2 (rcases k with _ | k;· kernel_rfl));omega
  exact h k hk
 one:=λ x k=>by unfold kM;dsimp only;split <;> rfl
 bytes:=Nat.le_of_ble_eq_true (by kernel_rfl)
def vN:Enc Bx:=⟨4,λ p k=>match k with | 0=>vI p.x0 | 1=>vI p.y0 | 2=>vI p.x1 | _=>vI p.y1,⟨0,0,0,0⟩⟩
noncomputable def MN:TypeInfo:=match Tryz.prog.info? 26 with | some i=>i | none=>⟨.bool,"",0,0,false,0,0,none,false,#[]⟩
noncomputable def MO:Value:=match MN.zero with | some z=>z | none=>.bool false
theorem EV:EncOk vN Tryz.prog 26 MN MO where
 info:=by kernel_rfl
 zero:=by kernel_rfl
 size:=by kernel_rfl
 zsize:=by kernel_rfl
 zcell:=λ k hk=>by
  have h:∀ k < 4,MO.cells[k]?=some (vN.cell vN.dflt k):=by intro k hk;(iterate 4 (rcases k with _ | k;· kernel_rfl));omega
  exact h k hk
 one:=λ x k=>by unfold vN;dsimp only;split <;> rfl
 bytes:=Nat.le_of_ble_eq_true (by kernel_rfl)
def mt:Enc Dr:=⟨2,λ p k=>match k with | 0=>vI p.a | _=>vI p.b,⟨0,0⟩⟩
noncomputable def MP:TypeInfo:=match Tryz.prog.info? 53 with | some i=>i | none=>⟨.bool,"",0,0,false,0,0,none,false,#[]⟩
noncomputable def MQ:Value:=match MP.zero with | some z=>z | none=>.bool false
theorem EW:EncOk mt Tryz.prog 53 MP MQ where
 info:=by kernel_rfl
 zero:=by kernel_rfl
 size:=by kernel_rfl
 zsize:=by kernel_rfl
 zcell:=λ k hk=>by
  have h:∀ k < 2,MQ.cells[k]?=some (mt.cell mt.dflt k):=by intro k hk;(iterate 2 (rcases k with _ | k;· kernel_rfl));omega
  exact h k hk
 one:=λ x k=>by unfold mt;dsimp only;split <;> rfl
 bytes:=Nat.le_of_ble_eq_true (by kernel_rfl)
structure MapIn (F:HL) (S:Setup) (rs:List Bx) (ds:List Dr):Prop where
 rooms:RowL vN 26 F S.rA S.rn rs
 doors:RowL mt 53 F S.dA S.dn ds
theorem MapIn.up {F X:HL} {S:Setup} {rs:List Bx} {ds:List Dr} (h:MapIn F S rs ds):MapIn (X++F) S rs ds:=⟨h.rooms.up,h.doors.up⟩
abbrev ql:List Bx:=[⟨-12000,-9000,-1,9000⟩,⟨0,0,12000,9000⟩,⟨0,-9000,12000,-1⟩]
abbrev jY (i:Nat):List Dr:=match i with | 0=>[] | 1=>[⟨0,1⟩] | _=>[⟨0,2⟩,⟨1,2⟩]
def ClS {α:Type} (e:Enc α) (T:TypeId) (xs:List α) (A':Option Addr) (c':Nat) (Hl:HL):Prop:=∃ A0,NewS e T xs A0 A' c' Hl
theorem ClS.rowL {α:Type} {e:Enc α} {T:TypeId} {xs:List α} {A':Option Addr} {c':Nat} {Hl:HL} (h:ClS e T xs A' c' Hl) {F:HL} (hF:∀ x ∈ Hl,x ∈ F):RowL e T F A' xs.length xs:=h.elim λ _ h=>h.rowL hF
theorem ClS.nil {α:Type} (e:Enc α) (T:TypeId) (A:Option Addr):ClS e T [] A 0 []:=⟨A,.inl ⟨rfl,rfl,rfl,rfl⟩⟩
def Iv (xs:List Int):Int:=1+kv xs 0 % 3
def qm (xs:List Int):Int:=Iv xs+kv xs 3 / 3 % 3
def bN (xs:List Int) (i:Nat):Int:=kv xs (4+2 * i)
def bM (xs:List Int) (i:Nat):Int:=kv xs (5+2 * i)
def sC (xs:List Int) (i:Nat) (A:Option Addr) (c:Nat):Bod:=⟨⟨(cK (bN xs i)).1,(cK (bN xs i)).2,A,c⟩,⟨((((bN xs i) / 1000) % 13) - 6) * 900,((((bM xs i) / 50) % 11) - 5) * 800,((((bM xs i) / 550) % 9) - 4) * 300,((((bN xs i) / 13000) % 9) - 4) * 300,([1024,1024,512,2048,0]:List Int).getD (((bM xs i) / 5000) % 5).toNat 0⟩,(bM xs i) % 50,(bN xs i) % 7⟩
def vO (a b c:Nat) (i:Nat):Option Addr:=match i with | 0=>some ⟨a,0,none⟩ | 1=>some ⟨b,0,none⟩ | _=>some ⟨c,0,none⟩
def jE (i:Nat):Nat:=match i with | 0=>0 | 1=>1 | _=>2
def z6 (a b c:Nat):Nat -> Nat -> Value:=λ i _=>.slice (vO a b c i) (jE i) (jE i)
theorem t8 {F:HL} {A:Option Addr} {n:Nat} {xs:List Int} (h:ArgL F A n xs):1 <= Iv xs /\ Iv xs <= 3:=by
 have:=gM h 0
 unfold Iv;omega
theorem pJ {F:HL} {A:Option Addr} {n:Nat} {xs:List Int} (h:ArgL F A n xs):1 <= qm xs /\ qm xs <= 5 /\ Iv xs <= qm xs:=by
 have:=gM h 0
 have:=gM h 3
 unfold qm Iv;omega
theorem EY {xs rest:List Int} {n i:Nat} (h:i < n):(ks xs n++rest).getD i 0=kv xs i:=by
 rw [List.getD_eq_getElem?_getD,List.getElem?_append_left (by rw [ms];exact h),<- List.getD_eq_getElem?_getD,KV h]
theorem qn {α:Type} {l r:List α} {i:Nat} {d:α} (h:i < l.length):(l++r).getD i d=l.getD i d:=by
 rw [List.getD_eq_getElem?_getD,List.getElem?_append_left h,<- List.getD_eq_getElem?_getD]
theorem sD {α:Type} {l:List α} {x d:α}:(l++[x]).getD l.length d=x:=by simp
theorem ShH.left {s:Shp} {T X:HL} (h:ShH s T):ShH s (T++X):=λ F hF=>h F λ x hx=>hF x (List.mem_append_left _ hx)
theorem ShH.right {s:Shp} {T X:HL} (h:ShH s X):ShH s (T++X):=λ F hF=>h F λ x hx=>hF x (List.mem_append_right _ hx)
theorem yr {F:HL} {a b c:Nat} (hb:(b,.rows 2 1 (bn mt (jY 1)) 53 (0,0)) ∈ F) (hc:(c,.rows 2 2 (bn mt (jY 2)) 53 (0,0)) ∈ F):∀ i:Nat,RowL mt 53 F (vO a b c i) (jE i) (jY i)
 | 0=>.zero _
 | 1=>RowL.whole (xs:=jY 1) hb (Nat.le_refl _)
 | _+2=>RowL.whole (xs:=jY 2) hc (Nat.le_refl _)
structure SetG (xs:List Int) (S:Setup) (T:HL):Prop where
 pl:S.players=Iv xs
 nb:(S.nb:Int)=qm xs
 bo:S.bo=0
 cap:S.nb <= S.bc
 room:S.bo+S.nb <= S.bR
 nums:S.box=⟨-12000,-9000,12000,9000⟩ /\ S.fog=4000+(kv xs 1 % 9) * 1000 /\ S.g=⟨0,(-((kv xs 2 / 36) % 3)) * 40⟩ /\ S.push=((kv xs 1 / 9) % 5) * 100 /\ S.drag=(kv xs 2 % 4) * 100 /\ S.rest=((kv xs 2 / 4) % 3) * 512 /\ S.rounds=1+(kv xs 2 / 12) % 3 /\ S.fuel=60
 bod:∀ j,j < S.nb -> ∃ A c,S.body j=sC xs j A c
 sin:∀ F,(S.bb,.rows 9 S.bR (iw S.bods) 62 (0,0)) ∈ F -> (∀ x ∈ T,x ∈ F) -> SetIn F S
 maps:(S.rn=3 /\ S.dn=jE (kv xs 3 % 3).toNat) /\ ∀ F,(∀ x ∈ T,x ∈ F) -> MapIn F S ql (jY (kv xs 3 % 3).toNat)
theorem Cp (A:Option Addr) (n cap:Nat) (xs:List Int) (F:HL) (hl:ArgL F A n xs) (hn:n <= 9223372036854775807):Sp Tryz.prog 4 #[.slice A n cap] (ap [] []) F (λ u H'=>∃ x:Setup × HL,H'=ap [(x.1.bb,.rows 9 x.1.bR (iw x.1.bods) 62 (0,0))] [x.2] /\ (u=Setup.v x.1 /\ SetG xs x.1 x.2)):=by
 refine Sp.run Tryz.func4 rfl mn (A:=[]) (Ts:=[]) rfl λ w0=>?_
 refine ae 17 [] λ n1=>RN.nt<|RN.loop (σ:=Nat × Option Addr × Nat × HL) (λ ⟨i,A_,c_,T_⟩=>⟨[(0,.slice A n cap),(2,vP (n1+0) 0),(3,.slice A_ i c_),(4,vI (i:Int))],[((n1+0),.lit [vI 0,.slice none 0 0,vI 0,vI 0,vI 0,vI 0,.slice none 0 0,.slice none 0 0,vI 0,vI 0,vI 0,vI 0,vI 0,vI 0,vI 0,vI 0] 32 (0,0))],[T_],i <= 24 /\ SlIs yp 3 (ks xs i) A_ c_ T_ /\ cq A_,24 - i⟩) (0,none,0,[]) [0] [0] (⟨Nat.zero_le _,SlIs.nil _ _,trivial⟩) ?_
 rintro ⟨i,A_,c_,T_⟩ ⟨hi_,hs_,hz_⟩ mt3
 refine ae 7 [] λ _=>RN.em ((i:Int) < 24) 12 (λ h4=>?_) λ h4=>?_
 ·refine ae 19 [] λ _=>RN.em ((i:Int) < (n:Int)) 18 (λ h5=>?_) λ h5=>?_
  ·refine ae 4 [] λ _=>?_
   obtain ⟨qx6,ox6,Nx6,gx6,tyx6,fzx6,hAx6,hqx6,hox6,hgx6,hrx6⟩:=hl.at (k:=i) (by omega)
   refine aK 19 (congrArg (λ v_=>(.slice v_ n cap:Value)) hAx6)<|RN.ro (λ _=>(mc hqx6 mn))<|ai 2 [.ix i,.rorow 0 (ox6+i) 0] [(ox6+i * 1)=(ox6+i) * 1+0 /\ (ox6+i) < Nx6,(i:Int)=((i:Nat):Int) /\ i < n] λ _=>aK 22 (congrArg (λ v_=>(v_:Value)) hgx6)<|aj (iE (xs.getD i 0) 1000000 (by decide) _) ?_
   have hA7:=dF (n:=xs.getD i 0) hrx6 1000000 (by decide)
   refine ae 7 [] λ n8=>gB EU (ks xs i) [aC (xs.getD i 0) 1000000] 0 0 (ms xs i).symm hs_ (by rw [ms];show i+1 <= 100000000;omega) ?_
   rintro A9 c10 T11 ⟨hs12,hz13⟩
   refine ai 9 [.nw] [bg ((i:Int)+1)] λ _=>?_
   have hz2:=hz13 hz_
   refine mt3 (i+1,A9,c10,T11) [1] [0] ?_
   try dsimp only
   refine ⟨⟨by omega,?_,hz2⟩,by omega⟩
   rw [zZ,show kv xs i=_ from by unfold kv;rw [if_pos (by rw [hl.len];omega)]]
   exact hs12
  ·refine ae 7 [] λ n14=>gB EU (ks xs i) [0] 0 0 (ms xs i).symm hs_ (by rw [ms];show i+1 <= 100000000;omega) ?_
   rintro A15 c16 T17 ⟨hs18,hz19⟩
   refine ai 9 [.nw] [bg ((i:Int)+1)] λ _=>?_
   have hz2:=hz19 hz_
   refine mt3 (i+1,A15,c16,T17) [1] [0] ?_
   try dsimp only
   refine ⟨⟨by omega,?_,hz2⟩,by omega⟩
   rw [zZ,show kv xs i=_ from by unfold kv;rw [if_neg (by rw [hl.len];omega)]]
   exact hs18
 ·refine ae 7 [] λ _=>?_
  have ei:i=24:=by omega
  subst ei
  obtain ⟨kb,rest,rfl,rfl,hcap0⟩:=hs_.open0 hz_ (by decide) (by rw [ms];decide)
  have hcap:24 <= c_:=by rw [ms] at hcap0;exact hcap0
  refine zI 0 (x:=(kb,.rows 1 c_ (bn yp (ks xs 24++rest)) 3 (0,0))) ?_
  have hk0:=gM hl 0
  have hk1:=gM hl 1
  have hk2:=gM hl 2
  have hk3:=gM hl 3
  have hse:qm xs=1+kv xs 0 % 3+kv xs 3 / 3 % 3:=rfl
  have hsc:=pJ hl
  have hsp:=t8 hl
  refine RN.draw [37] []<|aJ [] [0,5,6,12,18,23,29,1,7,13,19,24,30,2,8,14,20,25,31,3,9,15,21,26,32,4,10,16,22,27,33,11,17,28,34,35] [.row 0 0 0,.row 0 1 0,.row 0 1 0,.row 0 2 0,.row 0 2 0,.row 0 2 0,.nw,.nw,.nw,.nw,.nw,.nw,.nw,.nw,.nw,.nw,.nw,.nw,.nw,.nw,.nw,.nw] [bg (1+(((kv xs 2) / 12) % 3)),bg ((((kv xs 2) / 4) % 3) * 512),bg ((((kv xs 1) / 9) % 5) * 100),bg (4000+(((kv xs 1) % 9) * 1000)),0 <= (kv xs 2) / 12 /\ (0:Int) < 3 /\ (kv xs 2) / 12 <= 9223372036854775807,0 <= (kv xs 2) / 4 /\ (0:Int) < 3 /\ (kv xs 2) / 4 <= 9223372036854775807,bg (((kv xs 2) % 4) * 100),0 <= (kv xs 1) / 9 /\ (0:Int) < 5 /\ (kv xs 1) / 9 <= 9223372036854775807,bg (((kv xs 1) % 9) * 1000),bg (1+((kv xs 0) % 3)),0 <= kv xs 2 /\ (0:Int) < 12 /\ kv xs 2 <= 9223372036854775807,0 <= kv xs 2 /\ (0:Int) < 4 /\ kv xs 2 <= 9223372036854775807,0 <= kv xs 2 /\ (0:Int) < 4 /\ kv xs 2 <= 9223372036854775807,0 <= kv xs 1 /\ (0:Int) < 9 /\ kv xs 1 <= 9223372036854775807,0 <= kv xs 1 /\ (0:Int) < 9 /\ kv xs 1 <= 9223372036854775807,0 <= kv xs 0 /\ (0:Int) < 3 /\ kv xs 0 <= 9223372036854775807,2=2 * 1+0 /\ 2 < c_,2=2 * 1+0 /\ 2 < c_,2=2 * 1+0 /\ 2 < c_,1=1 * 1+0 /\ 1 < c_,1=1 * 1+0 /\ 1 < c_,0=0 * 1+0 /\ 0 < c_]<|RD.one 36 (RDO.ev [] [] λ n20=>?_)
  refine RD.one 37 (RDO.ev [] (ow 0 16) λ _=>?_)
  refine RD.fin<|ai 38 [.row 1 2 0,.nw,.nw,.nw,.nw,.own 0,.own 0,.own 1,.row 6 3 0,.nw] [0 <= kv xs 3 /\ (0:Int) < 3 /\ kv xs 3 <= 9223372036854775807,3=3 * 1+0 /\ 3 < c_,bg ((-(((kv xs 2) / 36) % 3)) * 40),-9223372036854775807 <= ((kv xs 2) / 36) % 3 /\ ((kv xs 2) / 36) % 3 <= 9223372036854775808,0 <= (kv xs 2) / 36 /\ (0:Int) < 3 /\ (kv xs 2) / 36 <= 9223372036854775807,0 <= kv xs 2 /\ (0:Int) < 36 /\ kv xs 2 <= 9223372036854775807,2=2 * 1+0 /\ 2 < c_] λ n21=>RN.dn 0 (.rows 1 3 (z6 (n21+1) (n21+2) (n21+3)) 28 (0,0))<|ai 13 [.ix (((kv xs 3) % 3).toNat),.row 0 (((kv xs 3) % 3).toNat) 0,.own 5] [(0+(((kv xs 3) % 3).toNat) * 1)=(((kv xs 3) % 3).toNat) * 1+0 /\ (((kv xs 3) % 3).toNat) < 3,(kv xs 3) % 3=((((kv xs 3) % 3).toNat:Nat):Int) /\ ((kv xs 3) % 3).toNat < 3] λ _=>RN.nt<|RN.nt<|RN.loop (σ:=Nat × List Bod × Option Addr × Nat × HL × HL) (λ ⟨j,bods,B_,d_,V_,U_⟩=>⟨[(2,vP (n1+0) 0),(3,vS kb 0 24 c_),(6,vP (n20+0) 0),(7,vI (j:Int))],[((n21+4),.rows 1 3 (z6 (n21+1) (n21+2) (n21+3)) 28 (0,0)),((n21+3),.lit [vI 0,vI 2,vI 1,vI 2] 53 (0,0)),((n21+2),.lit [vI 0,vI 1] 53 (0,0)),((n21+1),.lit [] 53 (0,0)),((n21+0),.lit [vI (-12000),vI (-9000),vI (-1),vI 9000,vI 0,vI 0,vI 12000,vI 9000,vI 0,vI (-9000),vI 12000,vI (-1)] 26 (0,0)),((n20+0),.lit [vI (1+((kv xs 0) % 3)),.slice B_ j d_,vI (-12000),vI (-9000),vI 12000,vI 9000,vS (n21+0) 0 3 3,.slice (vO (n21+1) (n21+2) (n21+3) (((kv xs 3) % 3).toNat)) (jE (((kv xs 3) % 3).toNat)) (jE (((kv xs 3) % 3).toNat)),vI (4000+(((kv xs 1) % 9) * 1000)),vI 0,vI ((-(((kv xs 2) / 36) % 3)) * 40),vI ((((kv xs 1) / 9) % 5) * 100),vI (((kv xs 2) % 4) * 100),vI ((((kv xs 2) / 4) % 3) * 512),vI (1+(((kv xs 2) / 12) % 3)),vI 60] 32 (0,0)),(kb,.rows 1 c_ (bn yp (ks xs 24++rest)) 3 (0,0)),((n1+0),.lit [vI 0,.slice none 0 0,vI 0,vI 0,vI 0,vI 0,.slice none 0 0,.slice none 0 0,vI 0,vI 0,vI 0,vI 0,vI 0,vI 0,vI 0,vI 0] 32 (0,0))],[V_,U_],(j:Int) <= qm xs /\ bods.length=j /\ (∀ t,t < j -> ∃ A c,bods.getD t dB=sC xs t A c) /\ (∀ t,t < j -> ShH (bods.getD t dB).sh U_) /\ SlIs kx 62 bods B_ d_ V_ /\ cq B_,(qm xs).toNat - j⟩) (0,[],none,0,[],[]) [0,1,2,3,4,5,6,7] [0,1] (⟨by show (0:Int) <= _;omega,rfl,λ t ht=>absurd ht (Nat.not_lt_zero _),λ t ht=>absurd ht (Nat.not_lt_zero _),SlIs.nil _ _,trivial⟩) ?_
  rintro ⟨j,bods,B_,d_,V_,U_⟩ ⟨hj_,hbl_,hb_,hsh_,hs2_,hz2_⟩ mt23
  refine ae 2 [] λ _=>RN.draw [] []<|aJ [] [0,1,3,2,4,5,6,7,8,9] [.own 5,.row 6 3 0,.nw,.nw,.nw] [bg ((1+((kv xs 0) % 3))+(((kv xs 3) / 3) % 3)),0 <= (kv xs 3) / 3 /\ (0:Int) < 3 /\ (kv xs 3) / 3 <= 9223372036854775807,0 <= kv xs 3 /\ (0:Int) < 3 /\ kv xs 3 <= 9223372036854775807,3=3 * 1+0 /\ 3 < c_]<|RD.fin<|ae 1 [] λ _=>RN.em ((j:Int) < (1+((kv xs 0) % 3))+(((kv xs 3) / 3) % 3)) 101 (λ h24=>?_) λ h24=>?_
  ·refine ai 13 [.nw,.nw,.ix ((4+(2 * (j:Int))).toNat),.row 6 ((4+(2 * (j:Int))).toNat) 0] [(0+((4+(2 * (j:Int))).toNat) * 1)=((4+(2 * (j:Int))).toNat) * 1+0 /\ ((4+(2 * (j:Int))).toNat) < c_,4+(2 * (j:Int))=(((4+(2 * (j:Int))).toNat:Nat):Int) /\ (4+(2 * (j:Int))).toNat < 24,bg (4+(2 * (j:Int))),bg (2 * (j:Int))] λ _=>aK 109 (congrArg (λ v_=>(vI v_:Value)) (EY (xs:=xs) (rest:=rest) (n:=24) (i:=4+2 * j) (by omega))) ?_
   have hbN:=gM hl (4+2 * j)
   rw [show kv xs (4+2 * j)=bN xs j from rfl] at hbN
   refine ai 11 [.nw,.nw,.ix ((5+(2 * (j:Int))).toNat),.row 6 ((5+(2 * (j:Int))).toNat) 0] [(0+((5+(2 * (j:Int))).toNat) * 1)=((5+(2 * (j:Int))).toNat) * 1+0 /\ ((5+(2 * (j:Int))).toNat) < c_,5+(2 * (j:Int))=(((5+(2 * (j:Int))).toNat:Nat):Int) /\ (5+(2 * (j:Int))).toNat < 24,bg (5+(2 * (j:Int))),bg (2 * (j:Int))] λ _=>aK 115 (congrArg (λ v_=>(vI v_:Value)) (EY (xs:=xs) (rest:=rest) (n:=24) (i:=5+2 * j) (by omega))) ?_
   have hbM:=gM hl (5+2 * j)
   rw [show kv xs (5+2 * j)=bM xs j from rfl] at hbM
   refine ae 6 [] λ _=>RN.ct (Hp:=[]) (Tp:=[]) [] [] (vM (bN xs j) _) ?_
   rintro _ ⟨A25,c26,T27⟩ ⟨rfl,hsh28⟩
   dsimp only at hsh28
   refine ai 37 ([.nw,.nw]++ow 0 9++[.nw,.nw,.nw,.nw,.nw,.nw,.nw,.nw,.nw,.nw,.nw,.nw,.nw,.nw,.nw,.nw,.nw,.nw]) [0 <= (bM xs j) / 5000 /\ (0:Int) < 5 /\ (bM xs j) / 5000 <= 9223372036854775807,0 <= bM xs j /\ (0:Int) < 5000 /\ bM xs j <= 9223372036854775807,bg (((((bN xs j) / 13000) % 9) - 4) * 300),bg ((((bN xs j) / 13000) % 9) - 4),0 <= (bN xs j) / 13000 /\ (0:Int) < 9 /\ (bN xs j) / 13000 <= 9223372036854775807,0 <= bN xs j /\ (0:Int) < 13000 /\ bN xs j <= 9223372036854775807,bg (((((bM xs j) / 550) % 9) - 4) * 300),bg ((((bM xs j) / 550) % 9) - 4),0 <= (bM xs j) / 550 /\ (0:Int) < 9 /\ (bM xs j) / 550 <= 9223372036854775807,0 <= bM xs j /\ (0:Int) < 550 /\ bM xs j <= 9223372036854775807,bg (((((bM xs j) / 50) % 11) - 5) * 800),bg ((((bM xs j) / 50) % 11) - 5),0 <= (bM xs j) / 50 /\ (0:Int) < 11 /\ (bM xs j) / 50 <= 9223372036854775807,0 <= bM xs j /\ (0:Int) < 50 /\ bM xs j <= 9223372036854775807,bg (((((bN xs j) / 1000) % 13) - 6) * 900),bg ((((bN xs j) / 1000) % 13) - 6),0 <= (bN xs j) / 1000 /\ (0:Int) < 13 /\ (bN xs j) / 1000 <= 9223372036854775807,0 <= bN xs j /\ (0:Int) < 1000 /\ bN xs j <= 9223372036854775807,0 <= bN xs j /\ (0:Int) < 7 /\ bN xs j <= 9223372036854775807,0 <= bM xs j /\ (0:Int) < 50 /\ bM xs j <= 9223372036854775807] λ n29=>RN.dn 0 (.rows 1 5 (aO [1024,1024,512,2048,0]) 3 (0,0))<|ai 12 ([.ix ((((bM xs j) / 5000) % 5).toNat),.row 0 ((((bM xs j) / 5000) % 5).toNat) 0]++ow 1 5++[.own 7]++ow 1 9) [(0+((((bM xs j) / 5000) % 5).toNat) * 1)=((((bM xs j) / 5000) % 5).toNat) * 1+0 /\ ((((bM xs j) / 5000) % 5).toNat) < 5,((bM xs j) / 5000) % 5=(((((bM xs j) / 5000) % 5).toNat:Nat):Int) /\ (((bM xs j) / 5000) % 5).toNat < 5] λ n30=>gB tQ bods [sC xs j A25 c26] 1 0 hbl_.symm hs2_ (by rw [hbl_];show j+1 <= 100000000;omega) ?_
   rintro A31 c32 T33 ⟨hs34,hz35⟩
   refine ai 10 [.own 8,.nw] [bg ((j:Int)+1)] λ _=>?_
   have hz2:=hz35 hz2_
   refine mZ [2,1,0]<|oP ?_
   refine mt23 (j+1,bods++[(sC xs j A25 c26)],A31,c32,T33,U_++T27) [3,4,5,6,7,8,9,10] [1,0] ?_
   try dsimp only
   refine ⟨⟨by omega,by rw [List.length_append,hbl_];rfl,?_,?_,hs34,hz2⟩,by omega⟩
   ·intro t ht
    rcases Nat.lt_or_ge t j with h | h
    ·rw [qn (by omega)];exact hb_ t h
    ·have:t=bods.length:=by omega
     subst this
     rw [sD,hbl_];exact ⟨_,_,rfl⟩
   ·intro t ht
    rcases Nat.lt_or_ge t j with h | h
    ·rw [qn (by omega)];exact (hsh_ t h).left
    ·have:t=bods.length:=by omega
     subst this
     rw [sD];exact ShH.right hsh28
  ·refine ae 7 [] λ _=>?_
   have ej:(j:Int)=qm xs:=by unfold qm Iv;unfold qm Iv at hj_;omega
   obtain ⟨bb,rest2,rfl,rfl,hcap2⟩:=hs2_.open0 hz2_ (by decide) (by rw [hbl_];omega)
   refine zI 0 (x:=(bb,.rows 9 d_ (bn kx (bods++rest2)) 62 (0,0)))<|ae 5 (ow 6 16++ow 8 16) λ _=>RN.dn 5 (.rows 4 3 (bn vN ql) 26 (0,0))<|RN.dn 3 (.rows 2 1 (bn mt (jY 1)) 53 (0,0))<|RN.dn 2 (.rows 2 2 (bn mt (jY 2)) 53 (0,0))<|RN.ret (ow 8 16) [0,5,3,2] [0] (v:=.agg #[vI (1+((kv xs 0) % 3)),vS bb 0 j d_,vI (-12000),vI (-9000),vI 12000,vI 9000,vS (n21+0) 0 3 3,.slice (vO (n21+1) (n21+2) (n21+3) (((kv xs 3) % 3).toNat)) (jE (((kv xs 3) % 3).toNat)) (jE (((kv xs 3) % 3).toNat)),vI (4000+(((kv xs 1) % 9) * 1000)),vI 0,vI ((-(((kv xs 2) / 36) % 3)) * 40),vI ((((kv xs 1) / 9) % 5) * 100),vI (((kv xs 2) % 4) * 100),vI ((((kv xs 2) / 4) % 3) * 512),vI (1+(((kv xs 2) / 12) % 3)),vI 60]) (H':=(ap [(bb,.rows 9 d_ (bn kx (bods++rest2)) 62 (0,0)),((n21+0),.rows 4 3 (bn vN ql) 26 (0,0)),((n21+2),.rows 2 1 (bn mt (jY 1)) 53 (0,0)),((n21+3),.rows 2 2 (bn mt (jY 2)) 53 (0,0))] [U_])) ?_
   have hbod:∀ k,k < j -> (bods++rest2).getD (0+k) dB=bods.getD k dB:=λ k hk=>by rw [Nat.zero_add,qn (by omega)]
   refine ⟨((⟨1+((kv xs 0) % 3),bb,0,j,d_,d_,bods++rest2,⟨-12000,-9000,12000,9000⟩,some ⟨(n21+0),0,none⟩,3,3,vO (n21+1) (n21+2) (n21+3) (kv xs 3 % 3).toNat,jE (kv xs 3 % 3).toNat,jE (kv xs 3 % 3).toNat,4000+(((kv xs 1) % 9) * 1000),⟨0,(-(((kv xs 2) / 36) % 3)) * 40⟩,(((kv xs 1) / 9) % 5) * 100,((kv xs 2) % 4) * 100,(((kv xs 2) / 4) % 3) * 512,1+(((kv xs 2) / 12) % 3),60⟩:Setup),[((n21+0),.rows 4 3 (bn vN ql) 26 (0,0)),((n21+2),.rows 2 1 (bn mt (jY 1)) 53 (0,0)),((n21+3),.rows 2 2 (bn mt (jY 2)) 53 (0,0))]++U_),(by simp [ap]),rfl,?_⟩
   refine ⟨rfl,ej,rfl,(by rw [hbl_] at hcap2;exact hcap2),(by rw [hbl_] at hcap2;show 0+j <= d_;omega),⟨rfl,rfl,rfl,rfl,rfl,rfl,rfl,rfl⟩,λ k hk=>?_,λ F hbF hF=>⟨⟨by show (0:Int) <= 1+kv xs 0 % 3 /\ 1+kv xs 0 % 3 <= 1000000;omega,by show j <= 1000000;omega⟩,hbF,by show 0+j <= d_;rw [hbl_] at hcap2;omega,λ k hk=>?_⟩,⟨⟨rfl,rfl⟩,λ F hF=>⟨RowL.whole (xs:=ql) (hF _ (List.mem_append_left _ (List.mem_cons_self))) (Nat.le_refl _),yr (hF _ (List.mem_append_left _ (List.mem_cons_of_mem _ (List.mem_cons_self)))) (hF _ (List.mem_append_left _ (List.mem_cons_of_mem _ (List.mem_cons_of_mem _ (List.mem_cons_self))))) _⟩⟩⟩
   ·obtain ⟨A,c,h⟩:=hb_ k hk
    exact ⟨A,c,by show (bods++rest2).getD (0+k) dB=_;rw [hbod k hk];exact h⟩
   ·show ShIn F ((bods++rest2).getD (0+k) dB).sh
    rw [hbod k hk]
    exact hsh_ k hk F λ x hx=>hF x (by simp [hx])
end Go.Proofs.YtobflkidpfkcaaaGreatDoor
