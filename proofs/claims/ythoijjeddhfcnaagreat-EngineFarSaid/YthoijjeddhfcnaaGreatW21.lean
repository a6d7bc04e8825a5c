import Derived.Test.YthoijjeddhfcnaaGreatW19
import Derived.Test.YthoijjeddhfcnaaGreatW08
set_option maxHeartbeats 4000000
set_option maxRecDepth 100000
set_option linter.unusedSimpArgs false
set_option linter.unusedVariables false
namespace Go.Proofs.YthoijjeddhfcnaaGreat
open Go.RowKit
def Shp.nm (s:Shp):Shp:=⟨s.r,s.poly,none,0⟩
def Bod.nm (b:Bod):Bod:=⟨b.sh.nm,b.mot,b.a,b.b⟩
def Setup.nm (S:Setup):Setup:={ S with bb:=0,bo:=0,bc:=0,bR:=0,bods:=(S.bods.drop S.bo).map Bod.nm,rA:=none,rc:=0,dA:=none,dc:=0 }
def Stp.nm (t:Stp):Stp:={ t with S:=t.S.nm,cA:=none,cc:=0,ib:=0,io:=0,ic:=0,iR:=0,ins:=[] }
theorem drop_getD {α:Type} (l:List α) (o k:Nat) (d:α):(l.drop o).getD (0+k) d=l.getD (o+k) d:=by
 rw [Nat.zero_add,List.getD_eq_getElem?_getD,List.getD_eq_getElem?_getD,List.getElem?_drop]
theorem map_getD {α β:Type} (f:α -> β) (l:List α) (k:Nat) (d:α):(l.map f).getD k (f d)=f (l.getD k d):=by
 rw [List.getD_eq_getElem?_getD,List.getD_eq_getElem?_getD,List.getElem?_map]
 cases l[k]? <;> rfl
theorem nm_body (S:Setup) (k:Nat):S.nm.body k=(S.body k).nm:=by
 show ((S.bods.drop S.bo).map Bod.nm).getD (0+k) dB=Bod.nm (S.bods.getD (S.bo+k) dB)
 rw [<- drop_getD S.bods S.bo k dB]
 exact map_getD Bod.nm _ _ dB
theorem nm_S_players (S:Setup):S.nm.players=S.players:=rfl
theorem nm_S_nb (S:Setup):S.nm.nb=S.nb:=rfl
theorem nm_S_box (S:Setup):S.nm.box=S.box:=rfl
theorem nm_S_g (S:Setup):S.nm.g=S.g:=rfl
theorem nm_S_push (S:Setup):S.nm.push=S.push:=rfl
theorem nm_S_drag (S:Setup):S.nm.drag=S.drag:=rfl
theorem nm_S_rest (S:Setup):S.nm.rest=S.rest:=rfl
theorem nm_S_rounds (S:Setup):S.nm.rounds=S.rounds:=rfl
theorem nm_S_fuel (S:Setup):S.nm.fuel=S.fuel:=rfl
theorem nm_t_cn (t:Stp):t.nm.cn=t.cn:=rfl
theorem nm_t_e0 (t:Stp):t.nm.e0=t.e0:=rfl
theorem nm_t_e1 (t:Stp):t.nm.e1=t.e1:=rfl
theorem nm_t_e2 (t:Stp):t.nm.e2=t.e2:=rfl
theorem nm_t_version (t:Stp):t.nm.version=t.version:=rfl
theorem nm_t_i (t:Stp):t.nm.i=t.i:=rfl
theorem nm_t_j (t:Stp):t.nm.j=t.j:=rfl
theorem nm_t_ended (t:Stp):t.nm.ended=t.ended:=rfl
theorem nm_t_f0 (t:Stp):t.nm.f0=t.f0:=rfl
theorem nm_t_f1 (t:Stp):t.nm.f1=t.f1:=rfl
theorem nm_t_f2 (t:Stp):t.nm.f2=t.f2:=rfl
theorem nm_t_f3 (t:Stp):t.nm.f3=t.f3:=rfl
theorem nm_t_emitted (t:Stp):t.nm.emitted=t.emitted:=rfl
theorem nm_t_code (t:Stp):t.nm.code=t.code:=rfl
theorem nm_t_S (t:Stp):t.nm.S=t.S.nm:=rfl
theorem nm_b_sh (b:Bod):b.nm.sh=b.sh.nm:=rfl
theorem nm_b_mot (b:Bod):b.nm.mot=b.mot:=rfl
theorem nm_s_r (s:Shp):s.nm.r=s.r:=rfl
theorem playerAt_nm (S:Setup) (k:Int) :playerAt S.nm k=playerAt S k:=by
 unfold playerAt
 simp only [nm_S_players,nm_t_S] <;> rfl
theorem bodyAt_nm (S:Setup) (k:Int) :bodyAt S.nm k=bodyAt S k:=by
 unfold bodyAt
 simp only [nm_S_players,nm_S_nb,nm_t_S] <;> rfl
theorem movP_nm (S:Setup) (k:Int) :(movP S.nm k)=(movP S k):=by
 unfold movP
 simp only [nm_S_nb,nm_t_S,nm_b_mot,nm_body] <;> rfl
theorem motM_nm (S:Setup) (M:MemS) (k:Int) :motM S.nm M k=motM S M k:=by
 unfold motM
 simp only [nm_t_S,nm_b_mot,nm_body,bodyAt_nm] <;> rfl
theorem collideS_nm (a:Shp) (pa:V2) (b:Shp) (pb:V2) :collideS a.nm pa b.nm pb=collideS a pa b pb:=by
 kernel_rfl
theorem earlS_nm (a:Shp) (pa va:V2) (b:Shp) (pb vb:V2) :earlS a.nm pa va b.nm pb vb=earlS a pa va b pb vb:=by
 kernel_rfl
theorem setMotM_nm (t:Stp) (k:Int) (m:Mot) (M:MemS) :setMotM t.nm k m M=setMotM t k m M:=by
 unfold setMotM
 simp only [nm_t_S,bodyAt_nm] <;> rfl
theorem placeM_nm (t:Stp) (c sp pos lo hi:Int) (M:MemS) :placeM t.nm c sp pos lo hi M=placeM t c sp pos lo hi M:=by
 unfold placeM
 simp only [nm_S_rest,nm_t_S] <;> rfl
theorem inputA_nm (t:Stp) (M:MemS) :inputA t.nm M=inputA t M:=by
 unfold inputA
 simp only [nm_t_version,nm_t_i,nm_t_S] <;> rfl
theorem inputC_nm (t:Stp) (M:MemS) :inputC t.nm M=inputC t M:=by
 unfold inputC
 simp only [nm_S_players,nm_t_i,nm_t_S] <;> rfl
theorem restB_nm (t:Stp) :restB t.nm=restB t:=by
 unfold restB
 simp only [nm_S_nb,nm_t_i,nm_t_ended,nm_t_S] <;> rfl
theorem restA_nm (t:Stp) (M:MemS) :restA t.nm M=restA t M:=by
 unfold restA
 simp only [nm_t_i,nm_t_S,bodyAt_nm] <;> rfl
theorem restC_nm (t:Stp) (M:MemS) :restC t.nm M=restC t M:=by
 unfold restC
 simp only [nm_S_nb,nm_t_i,nm_t_S] <;> rfl
theorem restM_nm (t:Stp) (M:MemS) :restM t.nm M=restM t M:=by
 unfold restM
 simp only [nm_t_S,restA_nm,restC_nm] <;> rfl
theorem forceV_nm (t:Stp) (M:MemS) :forceV t.nm M=forceV t M:=by
 unfold forceV
 simp only [nm_S_g,nm_S_push,nm_S_drag,nm_t_i,nm_t_S,playerAt_nm,motM_nm] <;> rfl
theorem forceA_nm (t:Stp) (M:MemS) :forceA t.nm M=forceA t M:=by
 unfold forceA
 simp only [nm_t_i,nm_t_S,bodyAt_nm] <;> rfl
theorem forceB_nm (t:Stp) (M:MemS) :forceB t.nm M=forceB t M:=by
 unfold forceB
 simp only [nm_t_i,nm_t_S,bodyAt_nm,movP_nm,forceV_nm] <;> rfl
theorem forceC_nm (t:Stp) (M:MemS) :forceC t.nm M=forceC t M:=by
 unfold forceC
 simp only [nm_S_nb,nm_t_i,nm_t_S] <;> rfl
theorem forceM_nm (t:Stp) (M:MemS) :forceM t.nm M=forceM t M:=by
 unfold forceM
 simp only [nm_t_S,forceA_nm,forceB_nm,forceC_nm] <;> rfl
theorem travelP_nm (t:Stp) (M:MemS) :travelP t.nm M=travelP t M:=by
 unfold travelP
 simp only [nm_t_i,nm_t_S,motM_nm] <;> rfl
theorem travelM_nm (t:Stp) (M:MemS) :travelM t.nm M=travelM t M:=by
 unfold travelM
 simp only [nm_S_box,nm_t_i,nm_t_S,bodyAt_nm,placeM_nm,travelP_nm] <;> rfl
theorem execV_nm (S:Setup) (op n a b:Int) (M:MemS) :execV S.nm op n a b M=execV S op n a b M:=by
 unfold execV
 simp only [nm_t_S,bodyAt_nm] <;> rfl
theorem stepI_nm (S:Setup) (op n sp pc fuel:Int) (M:MemS) :stepI S.nm op n sp pc fuel M=stepI S op n sp pc fuel M:=by
 unfold stepI
 simp only [nm_S_fuel,nm_t_S,execV_nm] <;> rfl
theorem stepV_nm (S:Setup) (code:List Ins) (n:Nat) (M:MemS) :stepV S.nm code n M=stepV S code n M:=by
 unfold stepV
 simp only [nm_t_code,nm_t_S,stepI_nm] <;> rfl
theorem runV_nm (e:Int) (t:Stp) (self other:Int) (M:MemS) :runV e t.nm self other M=runV e t self other M:=by
 unfold runV
 simp only [nm_S_fuel,nm_t_cn,nm_t_j,nm_t_emitted,nm_t_code,nm_t_S,stepV_nm,nm_t_f0,nm_t_f1,nm_t_f2,nm_t_f3] <;> rfl
theorem runE_nm (e:Int) (t:Stp) (self other:Int) (M:MemS) :runE e t.nm self other M=runE e t self other M:=by
 unfold runE
 simp only [nm_t_cn,nm_t_j,nm_t_code,nm_t_S] <;> rfl
theorem turnV_nm (r:VR) (over:Bool) (t:Stp) (cause:Bool) (M:MemS) :turnV r over t.nm cause M=turnV r over t cause M:=by
 unfold turnV
 simp only [nm_t_i,nm_t_j,nm_t_emitted,nm_t_S,nm_s_r,nm_t_f0,nm_t_f1,nm_t_f2,nm_t_f3] <;> rfl
theorem actV_nm (t:Stp) (M:MemS) :actV t.nm M=actV t M:=by
 unfold actV
 simp only [nm_t_i,nm_t_emitted,nm_t_S,playerAt_nm,nm_t_f0,nm_t_f1,nm_t_f2,nm_t_f3,nm_t_e0,nm_t_e2,runV_nm,runE_nm,turnV_nm] <;> rfl
theorem tickV_nm (t:Stp) (M:MemS) :tickV t.nm M=tickV t M:=by
 unfold tickV
 simp only [nm_t_S,nm_t_e1,nm_t_i,nm_t_j,runV_nm,runE_nm] <;> rfl
theorem hitV_nm (t:Stp) (M:MemS) :hitV t.nm M=hitV t M:=by
 unfold hitV
 simp only [nm_t_i,nm_t_emitted,nm_t_S,bodyAt_nm,nm_t_f0,nm_t_f1,nm_t_f2,nm_t_f3,nm_t_e0,nm_t_e2,runV_nm,runE_nm,turnV_nm] <;> rfl
theorem colT_nm (t:Stp) (M:MemS) :colT t.nm M=colT t M:=by
 unfold colT
 simp only [nm_t_i,nm_t_j,nm_t_S,nm_b_sh,nm_body,motM_nm,collideS_nm] <;> rfl
theorem resT_nm (t:Stp) (M:MemS) :resT t.nm M=resT t M:=by
 unfold resT
 simp only [nm_S_rest,nm_t_i,nm_t_j,nm_t_S,motM_nm,colT_nm] <;> rfl
theorem touchSet_nm (t:Stp) (M:MemS) :touchSet t.nm M=touchSet t M:=by
 unfold touchSet
 simp only [nm_t_i,nm_t_j,nm_t_S,bodyAt_nm,setMotM_nm,resT_nm] <;> rfl
theorem touchF_nm (t:Stp) (M:MemS) :touchF t.nm M=touchF t M:=by
 unfold touchF
 simp only [nm_S_nb,nm_t_i,nm_t_j,nm_t_S,colT_nm,touchSet_nm] <;> rfl
theorem earT_nm (t:Stp) (M:MemS) :earT t.nm M=earT t M:=by
 unfold earT
 simp only [nm_t_i,nm_t_j,nm_t_S,nm_b_sh,nm_body,motM_nm,earlS_nm] <;> rfl
theorem testF_nm (t:Stp) (M:MemS) :testF t.nm M=testF t M:=by
 unfold testF
 simp only [nm_t_i,nm_t_j,nm_t_S,movP_nm,earT_nm] <;> rfl
theorem moveA_nm (t:Stp) (M:MemS) :moveA t.nm M=moveA t M:=by
 unfold moveA
 simp only [nm_S_nb,nm_t_i,nm_t_S] <;> rfl
theorem moveF_nm (t:Stp) (M:MemS) :moveF t.nm M=moveF t M:=by
 unfold moveF
 simp only [nm_S_nb,nm_t_i,nm_t_j,nm_t_S,movP_nm,travelM_nm,testF_nm,moveA_nm] <;> rfl
theorem contactF_nm (t:Stp) (M:MemS) :contactF t.nm M=contactF t M:=by
 unfold contactF
 simp only [nm_S_nb,nm_S_rounds,nm_t_i,nm_t_j,nm_t_S,touchF_nm] <;> rfl
def Gm.nm (g:Gm):Gm:={ g with S:=g.S.nm,cA:=none,cc:=0,ib:=0,io:=0,ic:=0,iR:=0,ins:=[] }
theorem step_nm (g:Gm) (M:MemS):g.nm.step M=(g.step M).nm:=rfl
structure GEq (g g':Gm):Prop where
 nm:g.nm=g'.nm
 inp:∀ k,k < g.ni -> g.ins.getD (g.io+k) dI=g'.ins.getD (g'.io+k) dI
theorem inputM_eq {g g':Gm} (h:GEq g g') (M:MemS):inputM (g.step M) M=inputM (g'.step M) M:=by
 have hs:(g.step M).nm=(g'.step M).nm:=by rw [<- step_nm,<- step_nm,h.nm]
 unfold inputM
 rw [<- inputA_nm (g.step M),hs,inputA_nm]
 generalize inputA (g'.step M) M=N
 have hb:inputB (g.step M) N=inputB (g'.step M) N:=by
  have hS:(g.step M).S.nm=(g'.step M).S.nm:=show (g.step M).nm.S=(g'.step M).nm.S by rw [hs]
  have hi:(g.step M).i=(g'.step M).i:=show (g.step M).nm.i=(g'.step M).nm.i by rw [hs]
  have hn:(g.step M).ni=(g'.step M).ni:=show (g.step M).nm.ni=(g'.step M).nm.ni by rw [hs]
  unfold inputB
  rw [<- playerAt_nm (g.step M).S,hS,playerAt_nm,hi,hn]
  by_cases h1:playerAt (g'.step M).S (g'.step M).i >= 0
  ·rw [if_pos h1,if_pos h1]
   by_cases h2:(g'.step M).i < (g'.step M).ni
   ·rw [if_pos h2,if_pos h2]
    have h3:0 <= (g'.step M).i:=by
     rcases Int.lt_or_le (g'.step M).i 0 with h4 | h4
     ·unfold playerAt at h1;rw [if_pos h4] at h1;omega
     ·exact h4
    have e:(g.step M).inp (g'.step M).i.toNat=(g'.step M).inp (g'.step M).i.toNat:=by
     have h5:(g'.step M).i.toNat < g.ni:=by
      have h6:((g'.step M).ni:Int)=(g.ni:Int):=congrArg (Nat.cast) hn.symm
      omega
     exact h.inp _ h5
    rw [e]
   ·rw [if_neg h2,if_neg h2]
  ·rw [if_neg h1,if_neg h1]
 rw [hb,<- inputC_nm (g.step M),hs,inputC_nm]
theorem trV_eq {g g':Gm} (h:GEq g g') (M:MemS):trV g M=trV g' M:=by
 have hs:(g.step M).nm=(g'.step M).nm:=by rw [<- step_nm,<- step_nm,h.nm]
 unfold trV
 rw [inputM_eq h,<- actV_nm (g.step M),<- tickV_nm (g.step M),<- forceM_nm (g.step M),<- contactF_nm (g.step M),<- moveF_nm (g.step M),<- hitV_nm (g.step M),<- restM_nm (g.step M),hs,actV_nm,tickV_nm,forceM_nm,contactF_nm,moveF_nm,hitV_nm,restM_nm]
theorem trE_eq {g g':Gm} (h:GEq g g') (M:MemS):trE g M=trE g' M:=by
 have hs:(g.step M).nm=(g'.step M).nm:=by rw [<- step_nm,<- step_nm,h.nm]
 unfold trE
 rw [<- restB_nm (g.step M),hs,restB_nm]
def cpy (cs:List Int) (i:Nat):List Int:=cs.take i++List.replicate (cs.length - i) 0
theorem zrow_irow (n:Nat):zrow [vI 0]=irow (List.replicate n 0):=by
 funext i k
 rcases k with _ | k
 ·have:(List.replicate n (0:Int)).getD i 0=0:=by
   rw [List.getD_eq_getElem?_getD,List.getElem?_replicate];split <;> rfl
  show vI 0=vI _
  rw [this]
 ·simp [zrow,irow]
theorem cpy_zero (cs:List Int):zrow [vI 0]=irow (cpy cs 0):=by rw [zrow_irow cs.length];simp [cpy]
theorem cpy_end (cs:List Int):cpy cs cs.length=cs:=by simp [cpy]
theorem cpy_next {cs:List Int} {i:Nat} (h:i < cs.length):updG (irow (cpy cs i)) i 0 (vI (cs.getD i 0))=irow (cpy cs (i+1)):=by
 rw [irow_set (by simp [cpy];omega)]
 congr 1
 unfold cpy
 rw [List.set_append_right _ _ (by simp;omega)]
 have e:cs.length - i=(cs.length - (i+1))+1:=by omega
 rw [e,List.replicate_succ,List.take_succ_eq_append_getElem h,List.append_assoc]
 simp [List.length_take,Nat.min_eq_left (Nat.le_of_lt h),h]
theorem MemH.len {mb:Nat} {M:MemS} {k:Nat} {T:HL} (h:MemH mb M k T):M.cs.length <= 1000000:=by
 cases h with
 | mk cb A cap Hl hs hc hl=>exact hc
theorem len_mem (mb cb n:Nat) (A:Option Addr) (m cap:Nat) (base:Int) (F:HL) (hm:(mb,.lit [vS cb 0 n n,.slice A m cap,vI base] 64 (0,0)) ∈ F):Sp Tryz.prog 58 #[vP mb 0] [] F (λ u H'=>u=vI (n:Int) /\ H'=[]):=by
 refine Sp.run Tryz.func58 rfl (mc hm mn) (A:=[]) (Ts:=[]) rfl λ w0=>?_
 refine RN.go 15 [.ro 0] λ _=>?_
 exact RN.ret [] [] [] ⟨rfl,rfl⟩
theorem len_any {mb:Nat} {M:MemS} {k:Nat} {T:HL} {F:HL} (h:MemH mb M k T) (hs:∀ x ∈ T,x ∈ F):Sp Tryz.prog 58 #[vP mb 0] [] F (λ u H'=>u=vI (M.cs.length:Int) /\ H'=[]):=by
 cases h with
 | mk cb A cap Hl hsl hc hl=>exact len_mem mb cb M.cs.length A M.lg.length cap M.base F (hs _ (by simp))
theorem get_nat {M:MemS} {i:Nat} (h:i < M.cs.length):M.get (i:Int)=M.cs.getD i 0:=by
 unfold MemS.get
 rw [if_pos (by omega),Int.toNat_natCast]
theorem cells_any (mb:Nat) (M:MemS) (k:Nat) (T F:HL) (hM:MemH mb M k T) (hT:∀ x ∈ T,x ∈ F):Sp Tryz.prog 37 #[vP mb 0] [] F (λ u H'=>∃ q,H'=ap [(q,.rows 1 M.cs.length (irow M.cs) 3 (0,0))] [] /\ u=vS q 0 M.cs.length M.cs.length):=by
 have hl:=hM.len
 refine Sp.run Tryz.func37 rfl mn (A:=[]) (Ts:=[]) rfl λ w0=>?_
 refine RN.go 8 [] λ _=>RN.cp (len_any hM (λ x hx=>List.mem_append_right _ (hT x hx)))<|RN.goP 8 [.mk M.cs.length M.cs.length] [(M.cs.length:Int)=((M.cs.length:Nat):Int) /\ (M.cs.length:Int)=((M.cs.length:Nat):Int) /\ M.cs.length <= M.cs.length /\ 8 * M.cs.length <= 140737488355328 /\ 1=1 /\ M.cs.length <= 9223372036854775807] λ n1=>RN.cp (len_any hM (λ x hx=>List.mem_append_right _ (hT x hx)))<|RN.go 4 [] λ _=>RN.bv 0 (congrArg (λ v_=>(.rows 1 M.cs.length v_ 3 (0,0):Blk)) (show (zrow [vI 0])=(irow (cpy M.cs 0)) from (by rw [cpy_zero M.cs])))<|RN.loop (σ:=Nat) (λ i=>⟨[(0,vP mb 0),(3,vS (n1+0) 0 M.cs.length M.cs.length),(9,vI (M.cs.length:Int)),(10,vI (i:Int))],[((n1+0),.rows 1 M.cs.length (irow (cpy M.cs i)) 3 (0,0))],[],i <= M.cs.length,M.cs.length - i⟩) 0 [0] [] (Nat.zero_le _) ?_
 rintro i hI2 mt3
 refine RN.go 6 [] λ _=>RN.em ((i:Int) < (M.cs.length:Int)) 11 (λ h4=>?_) λ h4=>?_
 ·refine RN.go 16 [] λ _=>RN.cp (get_any (i:Int) hM (λ x hx=>List.mem_append_right _ (hT x hx)))<|RN.goP 9 [.ix i,.row 0 i 0,.nw] [I64 ((i:Int)+1),(0+i * 1)=i * 1+0 /\ i < M.cs.length,(i:Int)=((i:Nat):Int) /\ i < M.cs.length] λ _=>RN.bv 0 (congrArg (λ v_=>(.rows 1 M.cs.length v_ 3 (0,0):Blk)) (show (updG (irow (cpy M.cs i)) i 0 (vI (M.get (i:Int))))=(irow (cpy M.cs (i+1))) from (by rw [<- cpy_next (cs:=M.cs) (i:=i) (by omega)];rw [get_nat (by omega)]))) ?_
  refine mt3 (i+1) [0] [] ?_
  try dsimp only
  exact ⟨by omega,by omega⟩
 ·refine RN.go 12 [] λ _=>RN.ret [] [0] [] (v:=vS (n1+0) 0 M.cs.length M.cs.length) (H':=[((n1+0),.rows 1 M.cs.length (irow (cpy M.cs i)) 3 (0,0))]) ?_
  have ei:i=M.cs.length:=by omega
  subst ei
  exact ⟨_,by rw [cpy_end];rfl,rfl⟩
theorem new_any (q:Nat) (cs:List Int) (k cap:Nat) (F:HL) (hq:(q,.rows 1 cs.length (irow cs) 3 (0,0)) ∈ F) (hc:cs.length <= 1000000) (hk:k <= 100000000) (hcap:cs.length <= cap):Sp Tryz.prog 6 #[vS q 0 cs.length cap] [] F (λ u H'=>∃ x:Nat × HL,H'=ap [] [x.2] /\ (u=vP x.1 0 /\ MemH x.1 ⟨cs,[],0⟩ k x.2)):=by
 refine Sp.run Tryz.func6 rfl (mc hq mn) (A:=[]) (Ts:=[]) rfl λ w0=>?_
 refine RN.goP 24 [.mk cs.length cs.length] [(cs.length:Int)=((cs.length:Nat):Int) /\ (cs.length:Int)=((cs.length:Nat):Int) /\ cs.length <= cs.length /\ 8 * cs.length <= 140737488355328 /\ 1=1 /\ cs.length <= 9223372036854775807] λ n1=>RN.bv 1 (congrArg (λ v_=>(.rows 1 cs.length v_ 3 (0,0):Blk)) (show (zrow [vI 0])=(irow (cpy cs 0)) from (by rw [cpy_zero cs])))<|RN.loop (σ:=Nat) (λ i=>⟨[(0,vS q 0 cs.length cap),(3,vP (n1+1) 0),(11,vI (cs.length:Int)),(12,vI (i:Int))],[((n1+1),.lit [vS (n1+0) 0 cs.length cs.length,.slice none 0 0,vI 0] 64 (0,0)),((n1+0),.rows 1 cs.length (irow (cpy cs i)) 3 (0,0))],[],i <= cs.length,cs.length - i⟩) 0 [0,1] [] (Nat.zero_le _) ?_
 rintro i hI2 mt3
 refine RN.go 6 [] λ _=>RN.em ((i:Int) < (cs.length:Int)) 13 (λ h4=>?_) λ h4=>?_
 ·refine RN.go 11 [] λ _=>RN.draw [10] []<|RD.goP [] [0,4,5,6,1,7,2,8,3,9] [.ix i,.rorow 0 i 0,.own 0,.ix i] [(i:Int)=((i:Nat):Int) /\ i < cs.length,(0+i * 1)=i * 1+0 /\ i < cs.length,(i:Int)=((i:Nat):Int) /\ i < cs.length]<|RD.one 10 (RDO.evP [] [.row 1 i 0] [(0+i * 1)=i * 1+0 /\ i < cs.length] λ _=>?_)
  refine RD.fin<|RN.goP 6 [.nw] [I64 ((i:Int)+1)] λ _=>RN.bv 1 (congrArg (λ v_=>(.rows 1 cs.length v_ 3 (0,0):Blk)) (show (updG (irow (cpy cs i)) i 0 (vI (cs.getD i 0)))=(irow (cpy cs (i+1))) from (by rw [<- cpy_next (cs:=cs) (i:=i) (by omega)]))) ?_
  refine mt3 (i+1) [0,1] [] ?_
  try dsimp only
  exact ⟨by omega,by omega⟩
 ·refine RN.go 12 [] λ _=>RN.ret [] [0,1] [] (v:=vP (n1+1) 0) (H':=[((n1+1),.lit [vS (n1+0) 0 cs.length cs.length,.slice none 0 0,vI 0] 64 (0,0)),((n1+0),.rows 1 cs.length (irow (cpy cs i)) 3 (0,0))]) ?_
  have ei:i=cs.length:=by omega
  subst ei
  rw [cpy_end]
  have hmm:=MemH.mk (mb:=(n1+1)) (M:=⟨cs,[],0⟩) (k:=k) (n1+0) none 0 [] (SlIs.nil _ _) hc (show ([]:List (Int × Int)).length+k <= 100000000 by simpa using hk)
  exact ⟨((n1+1),_),rfl,rfl,hmm⟩
def around (n most:Int):Int:=(if n < 0 then w64 (0 - w64 (n+1)) else n).tmod most
theorem around_any (n:Int) (most:Int) (h0:most ≠ 0) (F:HL):Sp Tryz.prog 4 #[vI n,vI most] [] F (λ u H'=>u=vI (around n most) /\ H'=[]):=by
 refine Sp.run Tryz.func4 rfl mn (A:=[]) (Ts:=[]) rfl λ w0=>?_
 refine RN.go 12 [] λ _=>RN.em (n < 0) 6 (λ h1=>?_) λ h1=>?_
 ·refine RN.goO 16 [.gen,.dv] (λ _=>[most ≠ 0]) (λ _=>(ac h0 an)) λ _=>RN.ret [] [] [] (v:=vI ((IntKind.i64.wrap (0 - (IntKind.i64.wrap (n+1)))).tmod most)) (H':=[]) ?_
  exact ⟨by unfold around;simp [*],rfl⟩
 ·refine RN.goO 11 [.dv] (λ _=>[most ≠ 0]) (λ _=>(ac h0 an)) λ _=>RN.ret [] [] [] (v:=vI (n.tmod most)) (H':=[]) ?_
  exact ⟨by unfold around;simp [*],rfl⟩
theorem bodyAt_in {S:Setup} (h:SetN S) {i:Nat} (hi:i < S.nb):0 <= bodyAt S i /\ bodyAt S i+8 <= sizeOf S /\ sizeOf S <= 20000000:=by
 have:=h.pl
 have:=h.nb
 unfold bodyAt sizeOf
 rw [if_neg (by omega),if_neg (by omega)]
 omega
theorem sizeOf_bd {S:Setup} (h:SetN S):48 <= sizeOf S /\ sizeOf S <= 20000000:=by
 have:=h.pl
 have:=h.nb
 unfold sizeOf
 omega
def iniL (S:Setup):Nat -> List Int
 | 0=>List.replicate (sizeOf S).toNat 0
 | i+1=>((((((iniL S i).set (bodyAt S i).toNat (S.body i).mot.px).set (bodyAt S i+1).toNat (S.body i).mot.py).set (bodyAt S i+2).toNat (S.body i).mot.vx).set (bodyAt S i+3).toNat (S.body i).mot.vy).set (bodyAt S i+4).toNat (S.body i).a).set (bodyAt S i+5).toNat (S.body i).b
theorem iniL_len (S:Setup):∀ i,(iniL S i).length=(sizeOf S).toNat
 | 0=>by simp [iniL]
 | i+1=>by simp [iniL,iniL_len S i]
theorem iniL_next {S:Setup} (h:SetN S) {i:Nat} (hi:i < S.nb):updG (updG (updG (updG (updG (updG (irow (iniL S i)) (bodyAt S i).toNat 0 (vI (S.body i).mot.px)) (bodyAt S i+1).toNat 0 (vI (S.body i).mot.py)) (bodyAt S i+2).toNat 0 (vI (S.body i).mot.vx)) (bodyAt S i+3).toNat 0 (vI (S.body i).mot.vy)) (bodyAt S i+4).toNat 0 (vI (S.body i).a)) (bodyAt S i+5).toNat 0 (vI (S.body i).b)=irow (iniL S (i+1)):=by
 have:=bodyAt_in h hi
 rw [irow_set,irow_set,irow_set,irow_set,irow_set,irow_set,iniL] <;> (simp only [List.length_set,iniL_len];omega)
open Go.Shelf
section
variable {r:Option Nat} {P:Program} {N:Nat} {D:List Deferred} {F:HL} {w0:World} {R:HL} {s:Cfg} {Q:Exit -> Act -> World -> Prop}
variable {α:Type} {e:Enc α} {T:TypeId} {inf:TypeInfo} {z:Value}
end
inductive RowL {α:Type} (e:Enc α) (T:TypeId) (F:HL):Option Addr -> Nat -> List α -> Prop
  | zero (A:Option Addr):RowL e T F A 0 []
  | rows (q o N:Nat) (full:List α) (fz:Nat × Nat) (n:Nat) (xs:List α) (hq:(q,.rows e.w N (rowE e full) T fz) ∈ F) (ho:o+n <= N) (hn:xs.length=n) (hx:∀ k,k < n -> full.getD (o+k) e.dflt=xs.getD k e.dflt):RowL e T F (some ⟨q,o * e.w,none⟩) n xs
section
variable {α:Type} {e:Enc α} {T:TypeId} {F:HL} {A:Option Addr} {n:Nat} {xs:List α}
theorem RowL.mono {F':HL} (h:RowL e T F A n xs) (hs:∀ x ∈ F,x ∈ F'):RowL e T F' A n xs:=by
  cases h with
  | zero=>exact .zero _
  | rows q o N full fz n xs hq ho hn hx=>exact .rows q o N full fz n xs (hs _ hq) ho hn hx
theorem RowL.up {X:HL} (h:RowL e T F A n xs):RowL e T (X++F) A n xs:=h.mono λ x hx=>List.mem_append_right _ hx
theorem RowL.at (h:RowL e T F A n xs) {k:Nat} (hk:k < n):∃ q o N full fz,A=some ⟨q,o * e.w,none⟩ /\ (q,.rows e.w N (rowE e full) T fz) ∈ F /\ o+k < N /\ full.getD (o+k) e.dflt=xs.getD k e.dflt:=by
  cases h with
  | zero=>omega
  | rows q o N full fz n xs hq ho hn hx=>exact ⟨q,o,N,full,fz,rfl,hq,by omega,hx k hk⟩
end
section
variable {α:Type} {e:Enc α} {P:Program} {t tx ty T:TypeId} {inf:TypeInfo} {z:Value} {F:HL}
end
section
variable {r:Option Nat} {P:Program} {N:Nat} {D:List Deferred} {F:HL} {w0:World} {R:HL} {s:Cfg} {Q:Exit -> Act -> World -> Prop}
variable {α:Type} {e:Enc α} {T:TypeId} {inf:TypeInfo} {z:Value}
end
abbrev i64r (n:Int):Prop:=-9223372036854775808 <= n /\ n <= 9223372036854775807
theorem around_bd {n:Int} (hn:i64r n) (most:Int) (h:0 < most):0 <= around n most /\ around n most < most:=by
 unfold around
 have hx:0 <= (if n < 0 then w64 (0 - w64 (n+1)) else n):=by
  split
  ·rw [w64_id (x:=n+1) (by omega),w64_id (by omega)];omega
  ·omega
 exact ⟨Int.tmod_nonneg _ hx,Int.tmod_lt_of_pos _ h⟩
inductive ArgL (F:HL):Option Addr -> Nat -> List Int -> Prop
 | zero (A:Option Addr):ArgL F A 0 []
 | cells (q o N:Nat) (g:Nat -> Nat -> Value) (ty:TypeId) (fz:Nat × Nat) (xs:List Int) (hq:(q,.rows 1 N g ty fz) ∈ F) (ho:o+xs.length <= N) (hx:∀ k,k < xs.length -> g (o+k) 0=vI (xs.getD k 0)) (hb:∀ k,k < xs.length -> i64r (xs.getD k 0)):ArgL F (some ⟨q,o,none⟩) xs.length xs
theorem ArgL.up {F X:HL} {A:Option Addr} {n:Nat} {xs:List Int} (h:ArgL F A n xs):ArgL (X++F) A n xs:=by
 cases h with
 | zero=>exact .zero _
 | cells q o N g ty fz xs hq ho hx hb=>exact .cells q o N g ty fz xs (List.mem_append_right _ hq) ho hx hb
theorem ArgL.at {F:HL} {A:Option Addr} {n:Nat} {xs:List Int} (h:ArgL F A n xs) {k:Nat} (hk:k < n):∃ q o N g ty fz,A=some ⟨q,o,none⟩ /\ (q,.rows 1 N g ty fz) ∈ F /\ o+k < N /\ g (o+k) 0=vI (xs.getD k 0) /\ i64r (xs.getD k 0):=by
 cases h with
 | zero=>omega
 | cells q o N g ty fz xs hq ho hx hb=>exact ⟨q,o,N,g,ty,fz,rfl,hq,by omega,hx k hk,hb k hk⟩
def kv (xs:List Int) (i:Nat):Int:=if i < xs.length then around (xs.getD i 0) 1000000 else 0
def ks (xs:List Int) (n:Nat):List Int:=(List.range n).map (kv xs)
def bxE:Enc Bx:=⟨4,λ p k=>match k with | 0=>vI p.x0 | 1=>vI p.y0 | 2=>vI p.x1 | _=>vI p.y1,⟨0,0,0,0⟩⟩
theorem getD_app {α:Type} {l r:List α} {i:Nat} {d:α} (h:i < l.length):(l++r).getD i d=l.getD i d:=by
 rw [List.getD_eq_getElem?_getD,List.getElem?_append_left h,<- List.getD_eq_getElem?_getD]
theorem getD_last {α:Type} {l:List α} {x d:α}:(l++[x]).getD l.length d=x:=by simp
def okIn (x:Inp):Prop:=(¬ x.dx < -1 /\ ¬ x.dx > 1) /\ (¬ x.dy < -1 /\ ¬ x.dy > 1) /\ ¬ x.act < 0 /\ ¬ x.act > 3
instance (x:Inp):Decidable (okIn x):=inferInstanceAs (Decidable (_ /\ _))
def wrongE (pl:Int) (n:Nat) (xs:List Inp) (now:Int):Int:=if (n:Int)=pl then (if ∀ k,k < n -> okIn (xs.getD k dI) then (if now >= 6000 then 2 else 0) else 1) else 17
theorem mark_mem (mb cb n:Nat) (A:Option Addr) (m cap:Nat) (base:Int) (F:HL) (hm:(mb,.lit [vS cb 0 n n,.slice A m cap,vI base] 64 (0,0)) ∈ F):Sp Tryz.prog 15 #[vP mb 0] [] F (λ u H'=>u=vI (w64 (base+(m:Int))) /\ H'=[]):=by
 refine Sp.run Tryz.func15 rfl (mc hm mn) (A:=[]) (Ts:=[]) rfl λ w0=>?_
 refine RN.go 6 [] λ _=>RN.draw [] []<|RD.go [] [0,4,1,5,2,6,3,7,8,9,10] [.ro 0,.ro 0]<|RD.fin<|RN.go 1 [] λ _=>?_
 exact RN.ret [] [] [] ⟨rfl,rfl⟩
theorem mark_any {mb:Nat} {M:MemS} {k:Nat} {T F:HL} (h:MemH mb M k T) (hs:∀ x ∈ T,x ∈ F):Sp Tryz.prog 15 #[vP mb 0] [] F (λ u H'=>u=vI (w64 (M.base+(M.lg.length:Int))) /\ H'=[]):=by
 cases h with
 | mk cb A cap Hl hsl hc hl=>exact mark_mem mb cb M.cs.length A M.lg.length cap M.base F (hs _ (by simp))
theorem cells_ap (mb:Nat) (M:MemS) (k:Nat) (T F:HL) (hM:MemH mb M k T) (hT:∀ x ∈ T,x ∈ F):Sp Tryz.prog 37 #[vP mb 0] (ap [] []) F (λ u H'=>∃ q,H'=ap [(q,.rows 1 M.cs.length (irow M.cs) 3 (0,0))] [] /\ u=vS q 0 M.cs.length M.cs.length):=cells_any mb M k T F hM hT
end Go.Proofs.YthoijjeddhfcnaaGreat
