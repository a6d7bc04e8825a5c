import Derived.Test.YtkhifpbokgabbaaGreatDoorW20
set_option maxHeartbeats 4000000
set_option maxRecDepth 100000
set_option linter.unusedSimpArgs false
set_option linter.unusedVariables false
namespace Go.Proofs.YtkhifpbokgabbaaGreatDoor
open Go.RowKit
variable {K:Kd} {D:Int -> Prop}
def effE:Enc Eff:=⟨4,λ p k=>match k with | 0=>vI p.t | 1=>vI p.i | 2=>vI p.k | _=>vI p.v,eff0⟩
noncomputable def effEI:TypeInfo:=match Tryz.prog.info? 49 with | some i=>i | none=>⟨.bool,"",0,0,false,0,0,none,false,#[]⟩
noncomputable def effEZ:Value:=match effEI.zero with | some z=>z | none=>.bool false
theorem effEOk:EncOk effE Tryz.prog 49 effEI effEZ where
 info:=by kernel_rfl
 zero:=by kernel_rfl
 size:=by kernel_rfl
 zsize:=by kernel_rfl
 zcell:=λ k hk=>by
  have h:∀ k < 4,effEZ.cells[k]?=some (effE.cell effE.dflt k):=by intro k hk;(iterate 4 (rcases k with _ | k;· kernel_rfl));omega
  exact h k hk
 one:=λ x k=>by unfold effE;dsimp only;split <;> rfl
 bytes:=Nat.le_of_ble_eq_true (by kernel_rfl)
def trV (g:Gm) (M:MemS):VR:=if M.get 1=0 then ⟨inputM (g.step M) M,0,eff0,false⟩ else if M.get 1=1 then (actV (g.step M) M) else if M.get 1=2 then (tickV (g.step M) M) else if M.get 1=3 then ⟨forceM (g.step M) M,0,eff0,false⟩ else if M.get 1=4 then ⟨contactF (g.step M) M,0,eff0,false⟩ else if M.get 1=5 then ⟨moveF (g.step M) M,0,eff0,false⟩ else if M.get 1=6 then (hitV (g.step M) M) else ⟨restM (g.step M) M,0,eff0,false⟩
def trE (g:Gm) (M:MemS):Bool:=if M.get 1=7 then restB (g.step M) else false
abbrev trM (g:Gm) (M:MemS):MemS:=(trV g M).M
abbrev phOk (M:MemS):Prop:=0 <= M.get 1 /\ M.get 1 <= 7
structure GmIn (F:HL) (g:Gm):Prop where
 set:SetIn F g.S
 ins:(g.ib,.rows 3 g.iR (inrow g.ins) 89 (0,0)) ∈ F
 room:g.io+g.ni <= g.iR /\ g.ni <= 1000000
 eff:EffIn F
 code:CodeIn F g.code g.cA g.cn
structure GmC (F:HL) (g:Gm):Prop where
 set:SetIn F g.S
 ins:(g.ib,.rows 3 g.iR (inrow g.ins) 89 (0,0)) ∈ F
 room:g.io+g.ni <= g.iR /\ g.ni <= 1000000
 code:CodeIn F g.code g.cA g.cn
theorem GmIn.c {F:HL} {g:Gm} (h:GmIn F g):GmC F g:=⟨h.set,h.ins,h.room,h.code⟩
abbrev runs (M:MemS):Prop:=(M.get 1=1 \/ M.get 1=2 \/ M.get 1=6) /\ ¬ M.get 3=0
theorem GmIn.up {X F:HL} {g:Gm} (h:GmIn F g):GmIn (X++F) g:=⟨h.set.up,List.mem_append_right _ h.ins,h.room,List.mem_append_right _ h.eff,h.code.up⟩
structure TrD (D:Int -> Prop) (g:Gm) (M:MemS):Prop where
 lo:DLo D
 pl:M.get 1=0 \/ M.get 1=1 \/ M.get 1=3 -> DPl D g.S (M.get 2)
 bi:3 <= M.get 1 -> DBd D g.S (M.get 2)
 bj:M.get 1=4 \/ M.get 1=5 -> DBd D g.S (M.get 3)
 st:runs M -> StD D g.S g.code g.cn M
theorem trD_T (g:Gm) (M:MemS):TrD DT g M:=⟨λ _ _ _=>trivial,λ _ _ _ _ _=>trivial,λ _ _ _ _ _=>trivial,λ _ _ _ _ _=>trivial,λ _ _=>⟨⟨trivial,λ _=>trivial⟩,λ _=>trivial,λ _ _=>trivial⟩⟩
theorem trans_anyJ (g:Gm) (mb:Nat) (M:MemS) (k:Nat) (T F:HL) (hM:MemK K D mb M (k+20) T) (hg:GmC F g) (hJ:runs M -> EffIn F) (h0:phOk M) (ver:Int) (hver:g.version=ver) (hd:TrD D g M):Sp Tryz.prog 11 #[.iface K.tid (vP mb 0),.agg #[vI g.S.players,vS g.S.bb (g.S.bo * 9) g.S.nb g.S.bc,vI g.S.box.x0,vI g.S.box.y0,vI g.S.box.x1,vI g.S.box.y1,.slice g.S.rA g.S.rn g.S.rc,.slice g.S.dA g.S.dn g.S.dc,vI g.S.fog,vI g.S.g.x,vI g.S.g.y,vI g.S.push,vI g.S.drag,vI g.S.rest,vI g.S.rounds,vI g.S.fuel],.agg #[.slice g.cA g.cn g.cc,vI g.e0,vI g.e1,vI g.e2],vI ver,vS g.ib (g.io * 3) g.ni g.ic] (ap [] [T]) F (λ u H'=>∃ x,H'=ap [] [x] /\ (MemK K D mb (trM g M) k x /\ u=.tuple #[.bool (trE g M),.agg #[vI ((trV g M).e.t),vI ((trV g M).e.i),vI ((trV g M).e.k),vI ((trV g M).e.v)],.bool ((trV g M).em)])):=by
 subst hver
 by_cases h0:M.get 1=0
 ·rw [trM,show trV g M=⟨inputM (g.step M) M,0,eff0,false⟩ by simp only [trV,if_pos h0],show trE g M=false by simp [trE,h0]]
  exact trans0 g mb M k T F hM hg.set h0 hg.ins hg.room hd.lo (hd.pl (by omega))
 by_cases h1:M.get 1=1
 ·rw [trM,show trV g M=(actV (g.step M) M) by simp only [trV,if_neg h0,if_pos h1],show trE g M=false by simp [trE,h1]]
  exact trans1 g mb M k T F hM hg.set h1 (λ h_=>hJ ⟨by omega,h_⟩) hg.code hd.lo (hd.pl (by omega)) (λ h_=>hd.st ⟨by omega,h_⟩)
 by_cases h2:M.get 1=2
 ·rw [trM,show trV g M=(tickV (g.step M) M) by simp only [trV,if_neg h0,if_neg h1,if_pos h2],show trE g M=false by simp [trE,h2]]
  exact trans2 g mb M k T F hM hg.set h2 (λ h_=>hJ ⟨by omega,h_⟩) hg.code hd.lo (λ h_=>hd.st ⟨by omega,h_⟩)
 by_cases h3:M.get 1=3
 ·rw [trM,show trV g M=⟨forceM (g.step M) M,0,eff0,false⟩ by simp only [trV,if_neg h0,if_neg h1,if_neg h2,if_pos h3],show trE g M=false by simp [trE,h3]]
  exact trans3 g mb M k T F hM hg.set h3 hd.lo (hd.pl (by omega)) (hd.bi (by omega))
 by_cases h4:M.get 1=4
 ·rw [trM,show trV g M=⟨contactF (g.step M) M,0,eff0,false⟩ by simp only [trV,if_neg h0,if_neg h1,if_neg h2,if_neg h3,if_pos h4],show trE g M=false by simp [trE,h4]]
  exact trans4 g mb M k T F hM hg.set h4 hd.lo (hd.bi (by omega)) (hd.bj (by omega))
 by_cases h5:M.get 1=5
 ·rw [trM,show trV g M=⟨moveF (g.step M) M,0,eff0,false⟩ by simp only [trV,if_neg h0,if_neg h1,if_neg h2,if_neg h3,if_neg h4,if_pos h5],show trE g M=false by simp [trE,h5]]
  exact trans5 g mb M k T F hM hg.set h5 hd.lo (hd.bi (by omega)) (hd.bj (by omega))
 by_cases h6:M.get 1=6
 ·rw [trM,show trV g M=(hitV (g.step M) M) by simp only [trV,if_neg h0,if_neg h1,if_neg h2,if_neg h3,if_neg h4,if_neg h5,if_pos h6],show trE g M=false by simp [trE,h6]]
  exact trans6 g mb M k T F hM hg.set h6 (λ h_=>hJ ⟨by omega,h_⟩) hg.code hd.lo (hd.bi (by omega)) (λ h_=>hd.st ⟨by omega,h_⟩)
 have h7:M.get 1=7:=by omega
 rw [trM,show trV g M=⟨restM (g.step M) M,0,eff0,false⟩ by simp only [trV,if_neg h0,if_neg h1,if_neg h2,if_neg h3,if_neg h4,if_neg h5,if_neg h6],show trE g M=restB (g.step M) by simp [trE,h7]]
 exact trans7 g mb M k T F hM hg.set h7 hd.lo (hd.bi (by omega))
theorem trans_any (g:Gm) (mb:Nat) (M:MemS) (k:Nat) (T F:HL) (hM:MemK K D mb M (k+20) T) (hg:GmIn F g) (h0:phOk M) (ver:Int) (hver:g.version=ver) (hd:TrD D g M):Sp Tryz.prog 11 #[.iface K.tid (vP mb 0),.agg #[vI g.S.players,vS g.S.bb (g.S.bo * 9) g.S.nb g.S.bc,vI g.S.box.x0,vI g.S.box.y0,vI g.S.box.x1,vI g.S.box.y1,.slice g.S.rA g.S.rn g.S.rc,.slice g.S.dA g.S.dn g.S.dc,vI g.S.fog,vI g.S.g.x,vI g.S.g.y,vI g.S.push,vI g.S.drag,vI g.S.rest,vI g.S.rounds,vI g.S.fuel],.agg #[.slice g.cA g.cn g.cc,vI g.e0,vI g.e1,vI g.e2],vI ver,vS g.ib (g.io * 3) g.ni g.ic] (ap [] [T]) F (λ u H'=>∃ x,H'=ap [] [x] /\ (MemK K D mb (trM g M) k x /\ u=.tuple #[.bool (trE g M),.agg #[vI ((trV g M).e.t),vI ((trV g M).e.i),vI ((trV g M).e.k),vI ((trV g M).e.v)],.bool ((trV g M).em)])):=trans_anyJ g mb M k T F hM hg.c (λ _=>hg.eff) h0 ver hver hd
def runM (g:Gm):Nat -> MemS -> MemS
 | 0,M=>M
 | n+1,M=>runM g n (trM g M)
def effsV (g:Gm):Nat -> MemS -> List Eff
 | 0,_=>[]
 | n+1,M=>(if (trV g M).em=true then [(trV g M).e] else [])++effsV g n (trM g M)
def goodRun (g:Gm):Nat -> MemS -> Prop
 | 0,_=>False
 | n+1,M=>phOk M /\ ((n=0 /\ trE g M=true) \/ (trE g M=false /\ goodRun g n (trM g M)))
theorem effsV_yes {g:Gm} {n:Nat} {M:MemS} (h:(trV g M).em=true):effsV g (n+1) M=(trV g M).e :: effsV g n (trM g M):=by rw [effsV,if_pos h];rfl
theorem effsV_no {g:Gm} {n:Nat} {M:MemS} (h:¬ (trV g M).em=true):effsV g (n+1) M=effsV g n (trM g M):=by rw [effsV,if_neg h];rfl
theorem count_any (g:Gm) (mb:Nat) (M:MemS) (k m:Nat) (lim:Int) (T F:HL) (hM:MemH mb M (k+20 * m+20) T) (hg:GmIn F g) (hv:g.version=0) (hgood:goodRun g (m+1) M) (hlim:((m+1:Nat):Int) <= lim) (hl2:lim <= 1000000):Sp Tryz.prog 33 #[vP mb 0,.agg #[vI g.S.players,vS g.S.bb (g.S.bo * 9) g.S.nb g.S.bc,vI g.S.box.x0,vI g.S.box.y0,vI g.S.box.x1,vI g.S.box.y1,.slice g.S.rA g.S.rn g.S.rc,.slice g.S.dA g.S.dn g.S.dc,vI g.S.fog,vI g.S.g.x,vI g.S.g.y,vI g.S.push,vI g.S.drag,vI g.S.rest,vI g.S.rounds,vI g.S.fuel],.agg #[.slice g.cA g.cn g.cc,vI g.e0,vI g.e1,vI g.e2],vS g.ib (g.io * 3) g.ni g.ic,vI lim] (ap [] [T]) F (λ u H'=>∃ x:HL × Option Addr × Nat × HL,H'=ap [] [x.1,x.2.2.2] /\ (MemH mb (runM g (m+1) M) k x.1 /\ SlIs effE 49 (effsV g (m+1) M) x.2.1 x.2.2.1 x.2.2.2 /\ u=.tuple #[vI ((m+1:Nat):Int),.slice x.2.1 (effsV g (m+1) M).length x.2.2.1])):=by
 refine Sp.run Tryz.func33 rfl mn (A:=[]) (Ts:=[T]) rfl λ w0=>?_
 refine RN.go 20 [] λ n1=>RN.nt<|RN.loop (σ:=Nat × Nat × MemS × HL × List Eff × Option Addr × Nat × HL) (λ ⟨r,d,M_,T_,es_,B_,c_,E_⟩=>⟨[(0,vP mb 0),(3,vS g.ib (g.io * 3) g.ni g.ic),(4,vI lim),(6,vP (n1+0) 0),(7,vP (n1+1) 0),(12,.slice B_ es_.length c_),(13,vI ((d+1:Nat):Int))],[((n1+1),.lit [.slice g.cA g.cn g.cc,vI g.e0,vI g.e1,vI g.e2] 36 (0,0)),((n1+0),.lit [vI g.S.players,vS g.S.bb (g.S.bo * 9) g.S.nb g.S.bc,vI g.S.box.x0,vI g.S.box.y0,vI g.S.box.x1,vI g.S.box.y1,.slice g.S.rA g.S.rn g.S.rc,.slice g.S.dA g.S.dn g.S.dc,vI g.S.fog,vI g.S.g.x,vI g.S.g.y,vI g.S.push,vI g.S.drag,vI g.S.rest,vI g.S.rounds,vI g.S.fuel] 31 (0,0))],[T_,E_],d+(r+1)=m+1 /\ goodRun g (r+1) M_ /\ runM g (r+1) M_=runM g (m+1) M /\ MemH mb M_ (k+20 * r+20) T_ /\ es_++effsV g (r+1) M_=effsV g (m+1) M /\ SlIs effE 49 es_ B_ c_ E_ /\ es_.length <= d,r⟩) (m,0,M,T,[],none,0,[]) [0,1] [1,0] (⟨by omega,hgood,rfl,hM,rfl,SlIs.nil _ _,Nat.zero_le _⟩) ?_
 rintro ⟨r,d,M_,T_,es_,B_,c_,E_⟩ ⟨hd_,hgood_,hrun_,hM_,hes_,hs_,hlen_⟩ mt3
 refine RN.go 8 [] λ _=>RN.em (((d+1:Nat):Int) <= lim) 19 (λ h4=>?_) λ h4=>?_
 ·refine RN.go 12 (ow 1 16++[.own 0,.own 0,.own 0,.own 0]) λ _=>RN.ct [] [0] (trans_any g mb M_ (k+20 * r) T_ _ hM_ hg.up hgood_.1 0 hv (trD_T _ _)) ?_
  rintro _ T5 ⟨hM6,rfl⟩
  refine RN.go 16 [.own 0,.own 0,.own 0,.own 0] λ n7=>RN.eb ((trV g M_).em) 32 (λ h8=>?_) λ h8=>?_
  ·refine RN.go 5 [.own 0,.own 0,.own 0,.own 0] λ n9=>RN.app effEOk es_ [(trV g M_).e] 1 0 rfl hs_ (by have:=hlen_;simp;omega) ?_
   rintro A10 c11 T12 ⟨hs13,hz14⟩
   refine RN.go 8 [] λ _=>RN.eb (trE g M_) 37 (λ h15=>?_) λ h15=>?_
   ·refine RN.go 9 [] λ _=>RN.ret [] [] [1,0] (v:=.tuple #[vI ((d+1:Nat):Int),.slice A10 (es_.length+1) c11]) (H':=(ap [] [T5,T12])) ?_
    have er:r=0:=by
     rcases hgood_.2 with ⟨e,_⟩ | ⟨e,_⟩
     ·exact e
     ·have hh:trE g M_=true:=by assumption
      rw [e] at hh;cases hh
    subst er
    have ed:d=m:=by omega
    subst ed
    have e2:es_++[(trV g M_).e]=effsV g (d+1) M:=by rw [<- hes_,effsV_yes h8];rfl
    rw [<- hrun_,<- e2]
    exact ⟨⟨T5,A10,c11,T12⟩,rfl,hM6.weak (by omega),hs13,by simp⟩
   ·refine RN.goP 9 [.nw] [I64 (((d+1:Nat):Int)+1)] λ _=>?_
    have hg2:=hgood_.2
    rcases hg2 with ⟨_,e_⟩ | ⟨_,hg2⟩
    ·exact absurd e_ (by assumption)
    rcases r with _ | r
    ·exact hg2.elim
    refine RN.sv 12 (congrArg (λ v_=>(.slice A10 v_ c11:Value)) (show es_.length+1=(es_++[(trV g M_).e]).length by simp)) ?_
    refine mt3 (r,d+1,trM g M_,T5,es_++[(trV g M_).e],A10,c11,T12) [2,3] [1,0] ?_
    try dsimp only
    exact ⟨⟨by omega,hg2,hrun_,hM6.weak (by omega),by rw [<- hes_,effsV_yes h8,List.append_assoc];rfl,hs13,by simp;omega⟩,by omega⟩
  ·refine RN.go 8 [] λ _=>RN.eb (trE g M_) 37 (λ h16=>?_) λ h16=>?_
   ·refine RN.go 9 [] λ _=>RN.ret [] [] [0,1] (v:=.tuple #[vI ((d+1:Nat):Int),.slice B_ es_.length c_]) (H':=(ap [] [T5,E_])) ?_
    have er:r=0:=by
     rcases hgood_.2 with ⟨e,_⟩ | ⟨e,_⟩
     ·exact e
     ·have hh:trE g M_=true:=by assumption
      rw [e] at hh;cases hh
    subst er
    have ed:d=m:=by omega
    subst ed
    have e2:es_=effsV g (d+1) M:=by rw [<- hes_,effsV_no h8];simp [effsV]
    rw [<- hrun_,<- e2]
    exact ⟨⟨T5,B_,c_,E_⟩,rfl,hM6.weak (by omega),hs_,rfl⟩
   ·refine RN.goP 9 [.nw] [I64 (((d+1:Nat):Int)+1)] λ _=>?_
    have hg2:=hgood_.2
    rcases hg2 with ⟨_,e_⟩ | ⟨_,hg2⟩
    ·exact absurd e_ (by assumption)
    rcases r with _ | r
    ·exact hg2.elim
    refine mt3 (r,d+1,trM g M_,T5,es_,B_,c_,E_) [1,2] [0,1] ?_
    try dsimp only
    exact ⟨⟨by omega,hg2,hrun_,hM6.weak (by omega),by rw [<- hes_,effsV_no h8],hs_,by omega⟩,by omega⟩
 ·(exfalso;omega)
def cpy (cs:List Int) (i:Nat):List Int:=cs.take i++List.replicate (cs.length - i) 0
theorem zrow_irow (n:Nat):zrow [vI 0]=irow (List.replicate n 0):=by
 funext i k
 rcases k with _ | k
 ·have:(List.replicate n (0:Int)).getD i 0=0:=by
   rw [List.getD_eq_getElem?_getD,List.getElem?_replicate];split <;> rfl
  show vI 0=vI _
  rw [this]
 ·simp [zrow,irow]
theorem cpy_zero (cs:List Int):zrow [vI 0]=irow (cpy cs 0):=by rw [zrow_irow cs.length];simp [cpy]
theorem cpy_end (cs:List Int):cpy cs cs.length=cs:=by simp [cpy]
theorem cpy_next {cs:List Int} {i:Nat} (h:i < cs.length):updG (irow (cpy cs i)) i 0 (vI (cs.getD i 0))=irow (cpy cs (i+1)):=by
 rw [irow_set (by simp [cpy];omega)]
 congr 1
 unfold cpy
 rw [List.set_append_right _ _ (by simp;omega)]
 have e:cs.length - i=(cs.length - (i+1))+1:=by omega
 rw [e,List.replicate_succ,List.take_succ_eq_append_getElem h,List.append_assoc]
 simp [List.length_take,Nat.min_eq_left (Nat.le_of_lt h),h]
theorem new_any (q:Nat) (cs:List Int) (k cap:Nat) (F:HL) (hq:(q,.rows 1 cs.length (irow cs) 3 (0,0)) ∈ F) (hc:cs.length <= 1000000) (hk:k <= 100000000) (hcap:cs.length <= cap):Sp Tryz.prog 9 #[vS q 0 cs.length cap] [] F (λ u H'=>∃ x:Nat × HL,H'=ap [] [x.2] /\ (u=vP x.1 0 /\ MemH x.1 ⟨cs,[],0⟩ k x.2)):=by
 refine Sp.run Tryz.func9 rfl (mc hq mn) (A:=[]) (Ts:=[]) rfl λ w0=>?_
 refine RN.goP 24 [.mk cs.length cs.length] [(cs.length:Int)=((cs.length:Nat):Int) /\ (cs.length:Int)=((cs.length:Nat):Int) /\ cs.length <= cs.length /\ 8 * cs.length <= 140737488355328 /\ 1=1 /\ cs.length <= 9223372036854775807] λ n1=>RN.bv 1 (congrArg (λ v_=>(.rows 1 cs.length v_ 3 (0,0):Blk)) (show (zrow [vI 0])=(irow (cpy cs 0)) from (by rw [cpy_zero cs])))<|RN.loop (σ:=Nat) (λ i=>⟨[(0,vS q 0 cs.length cap),(3,vP (n1+1) 0),(11,vI (cs.length:Int)),(12,vI (i:Int))],[((n1+1),.lit [vS (n1+0) 0 cs.length cs.length,.slice none 0 0,vI 0] 87 (0,0)),((n1+0),.rows 1 cs.length (irow (cpy cs i)) 3 (0,0))],[],i <= cs.length,cs.length - i⟩) 0 [0,1] [] (Nat.zero_le _) ?_
 rintro i hI2 mt3
 refine RN.go 6 [] λ _=>RN.em ((i:Int) < (cs.length:Int)) 13 (λ h4=>?_) λ h4=>?_
 ·refine RN.go 11 [] λ _=>RN.draw [10] []<|RD.goP [] [0,4,5,6,1,7,2,8,3,9] [.ix i,.rorow 0 i 0,.own 0,.ix i] [(i:Int)=((i:Nat):Int) /\ i < cs.length,(0+i * 1)=i * 1+0 /\ i < cs.length,(i:Int)=((i:Nat):Int) /\ i < cs.length]<|RD.one 10 (RDO.evP [] [.row 1 i 0] [(0+i * 1)=i * 1+0 /\ i < cs.length] λ _=>?_)
  refine RD.fin<|RN.goP 6 [.nw] [I64 ((i:Int)+1)] λ _=>RN.bv 1 (congrArg (λ v_=>(.rows 1 cs.length v_ 3 (0,0):Blk)) (show (updG (irow (cpy cs i)) i 0 (vI (cs.getD i 0)))=(irow (cpy cs (i+1))) from (by rw [<- cpy_next (cs:=cs) (i:=i) (by omega)]))) ?_
  refine mt3 (i+1) [0,1] [] ?_
  try dsimp only
  exact ⟨by omega,by omega⟩
 ·refine RN.go 12 [] λ _=>RN.ret [] [0,1] [] (v:=vP (n1+1) 0) (H':=[((n1+1),.lit [vS (n1+0) 0 cs.length cs.length,.slice none 0 0,vI 0] 87 (0,0)),((n1+0),.rows 1 cs.length (irow (cpy cs i)) 3 (0,0))]) ?_
  have ei:i=cs.length:=by omega
  subst ei
  rw [cpy_end]
  have hmm:=MemH.mk (mb:=(n1+1)) (M:=⟨cs,[],0⟩) (k:=k) (n1+0) none 0 [] (SlIs.nil _ _) hc (show ([]:List (Int × Int)).length+k <= 100000000 by simpa using hk)
  exact ⟨((n1+1),_),rfl,rfl,hmm⟩
def around (n most:Int):Int:=(if n < 0 then w64 (0 - w64 (n+1)) else n).tmod most
theorem around_any (n:Int) (most:Int) (h0:most ≠ 0) (F:HL):Sp Tryz.prog 7 #[vI n,vI most] [] F (λ u H'=>u=vI (around n most) /\ H'=[]):=by
 refine Sp.run Tryz.func7 rfl mn (A:=[]) (Ts:=[]) rfl λ w0=>?_
 refine RN.go 12 [] λ _=>RN.em (n < 0) 6 (λ h1=>?_) λ h1=>?_
 ·refine RN.goO 16 [.gen,.dv] (λ _=>[most ≠ 0]) (λ _=>(ac h0 an)) λ _=>RN.ret [] [] [] (v:=vI ((IntKind.i64.wrap (0 - (IntKind.i64.wrap (n+1)))).tmod most)) (H':=[]) ?_
  exact ⟨by unfold around;simp [*],rfl⟩
 ·refine RN.goO 11 [.dv] (λ _=>[most ≠ 0]) (λ _=>(ac h0 an)) λ _=>RN.ret [] [] [] (v:=vI (n.tmod most)) (H':=[]) ?_
  exact ⟨by unfold around;simp [*],rfl⟩
theorem none_any (F:HL):Sp Tryz.prog 16 #[] [] F (λ u H'=>u=.agg #[.slice none 0 0,vI (-1),vI (-1),vI (-1)] /\ H'=[]):=by
 refine Sp.run Tryz.func16 rfl mn (A:=[]) (Ts:=[]) rfl λ w0=>?_
 refine RN.go 12 [.own 0,.own 0,.own 0,.own 0] λ n1=>?_
 exact RN.ret [.own 0,.own 0,.own 0,.own 0] [] [] ⟨rfl,rfl⟩
def shK (n:Int):Int:=around n 1000
def shR (n:Int):Int:=w64 (512 * w64 (1+(w64 ((shK n).tdiv 7)).tmod 5))
def shSq (r:Int):List V2:=[⟨w64 (0 - r),w64 (0 - r)⟩,⟨r,w64 (0 - r)⟩,⟨r,r⟩,⟨w64 (0 - r),r⟩]
def shTri (r:Int):List V2:=[⟨w64 (0 - r),w64 (0 - r)⟩,⟨r,w64 (0 - r)⟩,⟨0,r⟩]
def shBar (r:Int):List V2:=[⟨w64 (-2 * r),-300⟩,⟨w64 (2 * r),-300⟩,⟨w64 (2 * r),300⟩,⟨w64 (-2 * r),300⟩]
def shapeS (n:Int):Int × List V2:=if (shK n).tmod 7=0 then (shR n,[]) else if (shK n).tmod 7=1 then (shR n,[]) else if (shK n).tmod 7=2 then (shR n,[]) else if (shK n).tmod 7=3 then (0,shSq (shR n)) else if (shK n).tmod 7=4 then (0,shSq (shR n)) else if (shK n).tmod 7=5 then (0,shTri (shR n)) else (0,shBar (shR n))
def ShH (s:Shp) (T:HL):Prop:=∀ F,(∀ x ∈ T,x ∈ F) -> ShIn F s
theorem ShH.circle (r:Int) (A:Option Addr) (cap:Nat):ShH ⟨r,[],A,cap⟩ []:=λ F _=>.circle r A cap
theorem ShH.poly (r:Int) (l:List V2) (b cap:Nat) (h3:3 <= l.length) (h4:l.length <= cap) (h5:l.length <= 1000000):ShH ⟨r,l,some ⟨b,0,none⟩,cap⟩ [(b,.rows 2 cap (vrow l) 29 (0,0))]:=λ F h=>.poly r l b cap (h _ (by simp)) h3 h4 h5
theorem shapeOf_any (n:Int) (F:HL):Sp Tryz.prog 13 #[vI n] [] F (λ u H'=>∃ x:Option Addr × Nat × HL,H'=ap [] [x.2.2] /\ (u=shV ⟨(shapeS n).1,(shapeS n).2,x.1,x.2.1⟩ /\ ShH ⟨(shapeS n).1,(shapeS n).2,x.1,x.2.1⟩ x.2.2)):=by
 refine Sp.run Tryz.func13 rfl mn (A:=[]) (Ts:=[]) rfl λ w0=>?_
 refine RN.go 8 [] λ n1=>RN.cp (around_any n 1000 (by decide) _)<|RN.go 28 [] λ _=>RN.em ((shK n).tmod 7=0) 14 (λ h2=>?_) λ h2=>?_
 ·refine RN.go 11 [.own 0,.own 0] λ _=>RN.ret [.own 0,.own 0] [] [] (v:=.agg #[vI (IntKind.i64.wrap (512 * (IntKind.i64.wrap (1+((IntKind.i64.wrap ((shK n).tdiv 7)).tmod 5))))),.slice none 0 0]) (H':=[]) ?_
  have e:shapeS n=(shR n,[]):=by simp only [shapeS,if_pos h2]
  rw [e]
  exact ⟨(none,0,[]),rfl,rfl,ShH.circle _ _ _⟩
 ·refine RN.go 7 [] λ _=>RN.em ((shK n).tmod 7=1) 14 (λ h3=>?_) λ h3=>?_
  ·refine RN.go 11 [.own 0,.own 0] λ _=>RN.ret [.own 0,.own 0] [] [] (v:=.agg #[vI (IntKind.i64.wrap (512 * (IntKind.i64.wrap (1+((IntKind.i64.wrap ((shK n).tdiv 7)).tmod 5))))),.slice none 0 0]) (H':=[]) ?_
   have e:shapeS n=(shR n,[]):=by simp only [shapeS,if_neg h2,if_pos h3]
   rw [e]
   exact ⟨(none,0,[]),rfl,rfl,ShH.circle _ _ _⟩
  ·refine RN.go 6 [] λ _=>RN.em ((shK n).tmod 7=2) 14 (λ h4=>?_) λ h4=>?_
   ·refine RN.go 8 [.own 0,.own 0] λ _=>RN.ret [.own 0,.own 0] [] [] (v:=.agg #[vI (IntKind.i64.wrap (512 * (IntKind.i64.wrap (1+((IntKind.i64.wrap ((shK n).tdiv 7)).tmod 5))))),.slice none 0 0]) (H':=[]) ?_
    have e:shapeS n=(shR n,[]):=by simp only [shapeS,if_neg h2,if_neg h3,if_pos h4]
    rw [e]
    exact ⟨(none,0,[]),rfl,rfl,ShH.circle _ _ _⟩
   ·refine RN.go 8 [] λ _=>RN.em ((shK n).tmod 7=3) 20 (λ h5=>?_) λ h5=>?_
    ·refine RN.go 27 [.own 1,.own 1] λ n6=>RN.dn 0 (.rows 2 4 (vrow (shSq (shR n))) 29 (0,0))<|RN.ret [.own 1,.own 1] [0] [] (v:=.agg #[vI 0,vS (n6+0) 0 4 4]) (H':=[((n6+0),.rows 2 4 (vrow (shSq (shR n))) 29 (0,0))]) ?_
     have e:shapeS n=(0,shSq (shR n)):=by simp only [shapeS,if_neg h2,if_neg h3,if_neg h4,if_pos h5]
     rw [e]
     exact ⟨(some ⟨(n6+0),0,none⟩,4,_),rfl,rfl,ShH.poly 0 (shSq (shR n)) (n6+0) 4 (Nat.le_of_ble_eq_true rfl) (Nat.le_of_ble_eq_true rfl) (Nat.le_of_ble_eq_true rfl)⟩
    ·refine RN.go 6 [] λ _=>RN.em ((shK n).tmod 7=4) 20 (λ h7=>?_) λ h7=>?_
     ·refine RN.go 24 [.own 1,.own 1] λ n8=>RN.dn 0 (.rows 2 4 (vrow (shSq (shR n))) 29 (0,0))<|RN.ret [.own 1,.own 1] [0] [] (v:=.agg #[vI 0,vS (n8+0) 0 4 4]) (H':=[((n8+0),.rows 2 4 (vrow (shSq (shR n))) 29 (0,0))]) ?_
      have e:shapeS n=(0,shSq (shR n)):=by simp only [shapeS,if_neg h2,if_neg h3,if_neg h4,if_neg h5,if_pos h7]
      rw [e]
      exact ⟨(some ⟨(n8+0),0,none⟩,4,_),rfl,rfl,ShH.poly 0 (shSq (shR n)) (n8+0) 4 (Nat.le_of_ble_eq_true rfl) (Nat.le_of_ble_eq_true rfl) (Nat.le_of_ble_eq_true rfl)⟩
     ·refine RN.go 7 [] λ _=>RN.em ((shK n).tmod 7=5) 41 (λ h9=>?_) λ h9=>?_
      ·refine RN.go 19 [.own 1,.own 1] λ n10=>RN.dn 0 (.rows 2 3 (vrow (shTri (shR n))) 29 (0,0))<|RN.ret [.own 1,.own 1] [0] [] (v:=.agg #[vI 0,vS (n10+0) 0 3 3]) (H':=[((n10+0),.rows 2 3 (vrow (shTri (shR n))) 29 (0,0))]) ?_
       have e:shapeS n=(0,shTri (shR n)):=by simp only [shapeS,if_neg h2,if_neg h3,if_neg h4,if_neg h5,if_neg h7,if_pos h9]
       rw [e]
       exact ⟨(some ⟨(n10+0),0,none⟩,3,_),rfl,rfl,ShH.poly 0 (shTri (shR n)) (n10+0) 3 (Nat.le_of_ble_eq_true rfl) (Nat.le_of_ble_eq_true rfl) (Nat.le_of_ble_eq_true rfl)⟩
      ·refine RN.go 23 [.own 1,.own 1] λ n11=>RN.dn 0 (.rows 2 4 (vrow (shBar (shR n))) 29 (0,0))<|RN.ret [.own 1,.own 1] [0] [] (v:=.agg #[vI 0,vS (n11+0) 0 4 4]) (H':=[((n11+0),.rows 2 4 (vrow (shBar (shR n))) 29 (0,0))]) ?_
       have e:shapeS n=(0,shBar (shR n)):=by simp only [shapeS,if_neg h2,if_neg h3,if_neg h4,if_neg h5,if_neg h7,if_neg h9]
       rw [e]
       exact ⟨(some ⟨(n11+0),0,none⟩,4,_),rfl,rfl,ShH.poly 0 (shBar (shR n)) (n11+0) 4 (Nat.le_of_ble_eq_true rfl) (Nat.le_of_ble_eq_true rfl) (Nat.le_of_ble_eq_true rfl)⟩
end Go.Proofs.YtkhifpbokgabbaaGreatDoor
