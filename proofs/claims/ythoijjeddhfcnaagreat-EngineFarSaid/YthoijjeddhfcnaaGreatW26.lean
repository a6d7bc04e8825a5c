import Derived.Test.YthoijjeddhfcnaaGreatW25
import Derived.Test.YthoijjeddhfcnaaGreatW21
import Derived.Test.YthoijjeddhfcnaaGreatW22
import Derived.Test.YthoijjeddhfcnaaGreatW24
set_option maxHeartbeats 4000000
set_option maxRecDepth 100000
set_option linter.unusedSimpArgs false
set_option linter.unusedVariables false
namespace Go.Proofs.YthoijjeddhfcnaaGreat
open Go.RowKit
theorem etick_run (S:Setup) (mb ib io N ni ic c k cn:Nat) (A:Option Addr) (e0 e1 e2 ver:Int) (code:List Ins) (full xs:List Inp) (Q:MemS -> List Eff -> Nat -> Int -> Int -> Int -> Prop) (Fin:MemS -> List Eff -> Int -> Int -> Int -> Prop) (M:MemS) (T F:HL) (hx:∀ k,k < ni -> full.getD (io+k) dI=xs.getD k dI) (hM:MemH mb M (k+30 * 600) T) (hg:GmC F (⟨S,A,cn,c,e0,e1,e2,ver,ib,io,ni,ic,N,full,code⟩:Gm)) (hV:SetV S) (hB:BoxV S) (hm:∀ k,k < S.nb -> smS (S.body k).sh) (hlen:xs.length=ni) (hQ0:Q M [] 0 0 0 0) (hQl:∀ N es j p q s,Q N es j p q s -> (j:Int) < mostV S /\ es.length <= j /\ (N.cs.length:Int)=sizeOf S /\ BiA S N) (hQt:∀ N es j p q s,Q N es j p q s -> N.get 1 ≠ 4 -> phOk N /\ (runs N -> EffIn F) /\ ((trE (gmN S cn e0 e1 e2 ver ni xs code) N=false /\ Q (trM (gmN S cn e0 e1 e2 ver ni xs code) N) (es++if (trV (gmN S cn e0 e1 e2 ver ni xs code) N).em=true then [(trV (gmN S cn e0 e1 e2 ver ni xs code) N).e] else []) (j+1) p q s) \/ (trE (gmN S cn e0 e1 e2 ver ni xs code) N=true /\ Fin (trM (gmN S cn e0 e1 e2 ver ni xs code) N) (es++if (trV (gmN S cn e0 e1 e2 ver ni xs code) N).em=true then [(trV (gmN S cn e0 e1 e2 ver ni xs code) N).e] else []) p q s))) (hQc:∀ N N2 es j p q s p2 q2 s2,Q N es j p q s -> N.get 1=4 -> ColR S N N2 -> ColS S N p2 q2 s2 -> Q N2 es (j+1) p2 q2 s2) (hw:wrongE S.players ni xs (M.get 0)=0):Sp Tryz.prog 8 #[vP mb 0,(Setup.v S),.agg #[.slice A cn c,vI e0,vI e1,vI e2],vI ver,vS ib (io * 3) ni ic] (ap [] [T]) F (λ u H'=>∃ x:MemS × List Eff × Option Addr × Nat × HL × HL × Int × Int × Int,H'=ap [] [x.2.2.2.2.2.1,x.2.2.2.2.1] /\ (Fin x.1 x.2.1 x.2.2.2.2.2.2.1 x.2.2.2.2.2.2.2.1 x.2.2.2.2.2.2.2.2 /\ MemH mb x.1 k x.2.2.2.2.2.1 /\ SlIs effE 75 x.2.1 x.2.2.1 x.2.2.2.1 x.2.2.2.2.1 /\ u=.tuple #[.slice x.2.2.1 x.2.1.length x.2.2.2.1,.agg #[vI x.2.2.2.2.2.2.1,vI x.2.2.2.2.2.2.2.1,vI x.2.2.2.2.2.2.2.2],vI 0])):=by
 have hl:RowL inpE 56 F (some ⟨ib,io * 3,none⟩) ni xs:=.rows ib io N full (0,0) ni xs hg.ins hg.room.1 hlen hx
 have hmb_:=mostV_bd hV
 refine Sp.runM Tryz.func8 rfl mn (A:=[]) (Ts:=[T]) rfl λ w0=>?_
 refine RN.go 16 ([.own 5]++ow 4 16) λ n1=>RN.cp (echeck_b 0 S mb (k+30 * 600) M (some ⟨ib,io * 3,none⟩) ni ic xs T _ hM (sub_ap 0) hl.up hg.room.2 hw)<|RN.go 15 [.own 5] λ _=>RN.cp (mark_any hM (sub_ap 0))<|RN.go 7 [.own 0] λ n2=>RN.df (g:=16) (args:=#[]) (cap:=#[vP (n1+0) 0,vP (n2+0) 0,vP (n1+3) 0,vP (n1+4) 0,vP (n1+5) 0])<|RN.go 18 ([.own 6]++ow 5 16++[.own 4,.own 4,.own 4,.own 4]++ow 5 16) λ _=>RN.cp (mostV_any S _ hV)<|RN.go 4 [] λ _=>RN.nt<|RN.loop (σ:=Nat × MemS × List Eff × Option Addr × Nat × HL × HL × Int × Int × Int) (λ ⟨j_,N_,es_,B_,b_,E_,T_,p_,c_,s_⟩=>⟨[(5,vP (n1+0) 0),(6,vP (n1+1) 0),(10,vP (n1+3) 0),(11,vP (n1+4) 0),(12,vP (n1+5) 0),(14,vP (n2+0) 0),(15,.iface 70 (.agg #[vP mb 0,vI S.players,vS S.bb (S.bo * 9) S.nb S.bc,vI S.box.x0,vI S.box.y0,vI S.box.x1,vI S.box.y1,.slice S.rA S.rn S.rc,.slice S.dA S.dn S.dc,vI S.fog,vI S.g.x,vI S.g.y,vI S.push,vI S.drag,vI S.rest,vI S.rounds,vI S.fuel,.slice A cn c,vI e0,vI e1,vI e2,vI ver,vS ib (io * 3) ni ic])),(38,vI (mostV S)),(39,vI (j_:Int))],[((n2+0),.lit [vI (w64 (M.base+(M.lg.length:Int)))] 3 (0,0)),((n1+5),.lit [vI 0] 47 (0,0)),((n1+4),.lit [vI p_,vI c_,vI s_] 46 (0,0)),((n1+3),.lit [.slice B_ es_.length b_] 44 (0,0)),((n1+2),.lit [.slice A cn c,vI e0,vI e1,vI e2] 53 (0,0)),((n1+1),.lit (Setup.l S) 32 (0,0)),((n1+0),.lit [vP mb 0] 41 (0,0))],[E_,T_],j_ <= 600 /\ Q N_ es_ j_ p_ c_ s_ /\ MemH mb N_ (k+30 * (600 - j_)) T_ /\ SlIs effE 75 es_ B_ b_ E_,600 - j_⟩) (0,M,[],none,0,[],T,0,0,0) [0,1,2,3,4,5,6] [0,1] (⟨Nat.zero_le _,hQ0,hM,SlIs.nil _ _⟩) ?_
 rintro ⟨j_,N_,es_,B_,b_,E_,T_,p_,c_,s_⟩ ⟨hj_,hI_,hM_,hs_⟩ mt4
 refine RN.go 6 [] λ _=>RN.em ((j_:Int) < mostV S) 40 (λ h5=>?_) λ h5=>?_
 ·refine RN.go 7 [] λ _=>?_
  have hlt_:=hQl _ _ _ _ _ _ hI_
  have hbd_:=hlt_.2.1
  refine RN.go 2 [.own 6] λ _=>RN.cp (get_any 1 hM_ (sub_ap 1))<|RN.go 3 [] λ _=>RN.em (N_.get 1=4) 43 (λ h6=>?_) λ h6=>?_
  ·refine RN.go 5 ([.own 6]++ow 5 16) λ _=>RN.ct [] [1] (ecol_run S mb (k+30 * (600 - (j_+1))) N_ T_ _ hg.set.up hV hB hm hlt_.2.2.2 hlt_.2.2.1 (hM_.weak (by have h_:=hV.nb;omega))) ?_
   rintro _ ⟨⟨p2_,c2_,s2_⟩,N2_,T2_⟩ ⟨hcol_,hcs2_,hM2_,rfl⟩
   dsimp only at hcol_ hcs2_ hM2_
   refine RN.goP 11 [.own 2,.own 2,.own 2,.nw] [I64 ((j_:Int)+1)] λ _=>RN.sv 39 (congrArg (λ v_=>(vI v_:Value)) (show (j_:Int)+1=((j_+1:Nat):Int) by omega)) ?_
   refine mt4 (j_+1,N2_,es_,B_,b_,E_,T2_,p2_,c2_,s2_) [0,1,2,3,4,5,6] [1,0] ?_
   try dsimp only
   exact ⟨⟨by omega,hQc _ _ _ _ _ _ _ _ _ _ hI_ h6 hcol_ hcs2_,hM2_,hs_⟩,by omega⟩
  ·refine RN.go 4 [] λ _=>?_
   have htr_:=hQt _ _ _ _ _ _ hI_ h6
   refine RN.go 2 [] λ _=>RN.ct [] [1] (estep_run S mb ib io N ni ic c (k+30 * (600 - (j_+1))) cn A e0 e1 e2 ver code full xs N_ T_ _ hx (hM_.weak (by omega)) (hg.up (X:=_)) (λ h_=>ro_ap (htr_.2.1 h_)) htr_.1) ?_
   rintro _ T7 ⟨hM8,rfl⟩
   refine RN.go 16 [.own 0,.own 0,.own 0,.own 0] λ n9=>RN.eb ((trV (gmN S cn e0 e1 e2 ver ni xs code) N_).em) 53 (λ h10=>?_) λ h10=>?_
   ·refine RN.go 5 [.own 4,.own 0,.own 0,.own 0,.own 0] λ n11=>RN.app effEOk es_ [(trV (gmN S cn e0 e1 e2 ver ni xs code) N_).e] 1 0 rfl hs_ (by simp;omega) ?_
    rintro A12 c13 T14 ⟨hs15,hz16⟩
    refine RN.go 8 [.own 5] λ _=>RN.eb (trE (gmN S cn e0 e1 e2 ver ni xs code) N_) 58 (λ h17=>?_) λ h17=>?_
    ·refine RN.go 2 [] λ _=>RN.draw [0,1,2,3,4] []<|RD.haveK (σ:=Unit) (λ _=>⟨[(10,vP (n1+3) 0),(11,vP (n1+4) 0),(12,vP (n1+5) 0)],[((n11+0),.lit [vI ((trV (gmN S cn e0 e1 e2 ver ni xs code) N_).e.t),vI ((trV (gmN S cn e0 e1 e2 ver ni xs code) N_).e.i),vI ((trV (gmN S cn e0 e1 e2 ver ni xs code) N_).e.k),vI ((trV (gmN S cn e0 e1 e2 ver ni xs code) N_).e.v)] 75 (0,0)),((n9+0),.lit [vI ((trV (gmN S cn e0 e1 e2 ver ni xs code) N_).e.t),vI ((trV (gmN S cn e0 e1 e2 ver ni xs code) N_).e.i),vI ((trV (gmN S cn e0 e1 e2 ver ni xs code) N_).e.k),vI ((trV (gmN S cn e0 e1 e2 ver ni xs code) N_).e.v)] 75 (0,0)),((n2+0),.lit [vI (w64 (M.base+(M.lg.length:Int)))] 3 (0,0)),((n1+5),.lit [vI 0] 47 (0,0)),((n1+4),.lit [vI p_,vI c_,vI s_] 46 (0,0)),((n1+3),.lit [.slice A12 (es_.length+1) c13] 44 (0,0)),((n1+2),.lit [.slice A cn c,vI e0,vI e1,vI e2] 53 (0,0)),((n1+1),.lit (Setup.l S) 32 (0,0)),((n1+0),.lit [vP mb 0] 41 (0,0))],[T14,T7],True,0⟩) ?_ ?_
     ·rintro ⟨⟩
      refine RN.go 1 [] λ _=>RN.lv ?_
      refine LV.df (enters_of Tryz.func16 (by kernel_rfl) rfl) [] [] (etick1_ap _ _ _ _ _ _) ?_
      rintro _ _ _
      refine LV.ret [.own 5,.own 4,.own 4,.own 4,.own 3] [] [1,0] (v:=.tuple #[.slice A12 (es_.length+1) c13,.agg #[vI p_,vI c_,vI s_],vI 0]) (H':=(ap [] [T7,T14])) ?_
      rcases htr_.2.2 with ⟨h1_,_⟩ | ⟨_,hf_⟩
      ·rw [h17] at h1_;cases h1_
      rw [if_pos h10] at hf_
      exact ⟨((trM (gmN S cn e0 e1 e2 ver ni xs code) N_),es_++[(trV (gmN S cn e0 e1 e2 ver ni xs code) N_).e],A12,c13,T14,T7,p_,c_,s_),rfl,hf_,hM8.weak (by omega),hs15,by rw [List.length_append];rfl⟩
     ·intro key18
      refine RD.two 0 1 ?_ ?_
      ·refine RDO.ev [] [.own 5] λ _=>RD.two 1 2 ?_ ?_
       ·refine RDO.ev [] [.own 4,.own 4,.own 4] λ _=>RD.one 2 (RDO.ev [] [.own 5] λ _=>?_)
        refine RD.one 3 (RDO.ev [] [.own 4,.own 4,.own 4] λ _=>?_)
        refine RD.one 4 (RDO.ev [] [.own 3] λ _=>?_)
        exact key18 () [0,1,2,3,4,5,6,7,8] [0,1]
       ·refine RDO.ev [] [.own 5] λ _=>RD.one 1 (RDO.ev [] [.own 4,.own 4,.own 4] λ _=>?_)
        refine RD.one 3 (RDO.ev [] [.own 4,.own 4,.own 4] λ _=>?_)
        refine RD.one 4 (RDO.ev [] [.own 3] λ _=>?_)
        exact key18 () [0,1,2,3,4,5,6,7,8] [0,1]
      ·refine RDO.ev [] [.own 4,.own 4,.own 4] λ _=>RD.one 0 (RDO.ev [] [.own 5] λ _=>?_)
       refine RD.one 2 (RDO.ev [] [.own 5] λ _=>?_)
       refine RD.one 3 (RDO.ev [] [.own 4,.own 4,.own 4] λ _=>?_)
       refine RD.one 4 (RDO.ev [] [.own 3] λ _=>?_)
       exact key18 () [0,1,2,3,4,5,6,7,8] [0,1]
    ·refine RN.goP 8 [.nw] [I64 ((j_:Int)+1)] λ _=>RN.sv 39 (congrArg (λ v_=>(vI v_:Value)) (show (j_:Int)+1=((j_+1:Nat):Int) by omega)) ?_
     rcases htr_.2.2 with ⟨_,hn_⟩ | ⟨h1_,_⟩
     rotate_left
     ·exact absurd h1_ h17
     rw [if_pos h10] at hn_
     refine RN.bv 5 (congrArg (λ v_=>(.lit [.slice A12 v_ c13] 44 (0,0):Blk)) (show es_.length+1=(es_++[(trV (gmN S cn e0 e1 e2 ver ni xs code) N_).e]).length by simp)) ?_
     refine mt4 (j_+1,(trM (gmN S cn e0 e1 e2 ver ni xs code) N_),es_++[(trV (gmN S cn e0 e1 e2 ver ni xs code) N_).e],A12,c13,T14,T7,p_,c_,s_) [2,3,4,5,6,7,8] [0,1] ?_
     try dsimp only
     exact ⟨⟨by omega,hn_,hM8,hs15⟩,by omega⟩
   ·refine RN.go 8 [] λ _=>RN.eb (trE (gmN S cn e0 e1 e2 ver ni xs code) N_) 58 (λ h19=>?_) λ h19=>?_
    ·refine RN.go 2 [] λ _=>RN.draw [0,1,2,3,4] []<|RD.haveK (σ:=Unit) (λ _=>⟨[(10,vP (n1+3) 0),(11,vP (n1+4) 0),(12,vP (n1+5) 0)],[((n9+0),.lit [vI ((trV (gmN S cn e0 e1 e2 ver ni xs code) N_).e.t),vI ((trV (gmN S cn e0 e1 e2 ver ni xs code) N_).e.i),vI ((trV (gmN S cn e0 e1 e2 ver ni xs code) N_).e.k),vI ((trV (gmN S cn e0 e1 e2 ver ni xs code) N_).e.v)] 75 (0,0)),((n2+0),.lit [vI (w64 (M.base+(M.lg.length:Int)))] 3 (0,0)),((n1+5),.lit [vI 0] 47 (0,0)),((n1+4),.lit [vI p_,vI c_,vI s_] 46 (0,0)),((n1+3),.lit [.slice B_ es_.length b_] 44 (0,0)),((n1+2),.lit [.slice A cn c,vI e0,vI e1,vI e2] 53 (0,0)),((n1+1),.lit (Setup.l S) 32 (0,0)),((n1+0),.lit [vP mb 0] 41 (0,0))],[T7,E_],True,0⟩) ?_ ?_
     ·rintro ⟨⟩
      refine RN.go 1 [] λ _=>RN.lv ?_
      refine LV.df (enters_of Tryz.func16 (by kernel_rfl) rfl) [] [] (etick1_ap _ _ _ _ _ _) ?_
      rintro _ _ _
      refine LV.ret [.own 4,.own 3,.own 3,.own 3,.own 2] [] [0,1] (v:=.tuple #[.slice B_ es_.length b_,.agg #[vI p_,vI c_,vI s_],vI 0]) (H':=(ap [] [T7,E_])) ?_
      rcases htr_.2.2 with ⟨h1_,_⟩ | ⟨_,hf_⟩
      ·rw [h19] at h1_;cases h1_
      rw [if_neg h10,List.append_nil] at hf_
      exact ⟨((trM (gmN S cn e0 e1 e2 ver ni xs code) N_),es_,B_,b_,E_,T7,p_,c_,s_),rfl,hf_,hM8.weak (by omega),hs_,rfl⟩
     ·intro key20
      refine RD.two 0 1 ?_ ?_
      ·refine RDO.ev [] [.own 4] λ _=>RD.two 1 2 ?_ ?_
       ·refine RDO.ev [] [.own 3,.own 3,.own 3] λ _=>RD.one 2 (RDO.ev [] [.own 4] λ _=>?_)
        refine RD.one 3 (RDO.ev [] [.own 3,.own 3,.own 3] λ _=>?_)
        refine RD.one 4 (RDO.ev [] [.own 2] λ _=>?_)
        exact key20 () [0,1,2,3,4,5,6,7] [0,1]
       ·refine RDO.ev [] [.own 4] λ _=>RD.one 1 (RDO.ev [] [.own 3,.own 3,.own 3] λ _=>?_)
        refine RD.one 3 (RDO.ev [] [.own 3,.own 3,.own 3] λ _=>?_)
        refine RD.one 4 (RDO.ev [] [.own 2] λ _=>?_)
        exact key20 () [0,1,2,3,4,5,6,7] [0,1]
      ·refine RDO.ev [] [.own 3,.own 3,.own 3] λ _=>RD.one 0 (RDO.ev [] [.own 4] λ _=>?_)
       refine RD.one 2 (RDO.ev [] [.own 4] λ _=>?_)
       refine RD.one 3 (RDO.ev [] [.own 3,.own 3,.own 3] λ _=>?_)
       refine RD.one 4 (RDO.ev [] [.own 2] λ _=>?_)
       exact key20 () [0,1,2,3,4,5,6,7] [0,1]
    ·refine RN.goP 8 [.nw] [I64 ((j_:Int)+1)] λ _=>RN.sv 39 (congrArg (λ v_=>(vI v_:Value)) (show (j_:Int)+1=((j_+1:Nat):Int) by omega)) ?_
     rcases htr_.2.2 with ⟨_,hn_⟩ | ⟨h1_,_⟩
     rotate_left
     ·exact absurd h1_ h19
     rw [if_neg h10,List.append_nil] at hn_
     refine mt4 (j_+1,(trM (gmN S cn e0 e1 e2 ver ni xs code) N_),es_,B_,b_,E_,T7,p_,c_,s_) [1,2,3,4,5,6,7] [1,0] ?_
     try dsimp only
     exact ⟨⟨by omega,hn_,hM8,hs_⟩,by omega⟩
 ·(exfalso;have h_:=(hQl _ _ _ _ _ _ hI_).1;omega)
theorem zgetD_eq {l:List Int} {i:Nat} {v:Int} (h:i < l.length):(l.set i v).getD i 0=v:=by
  rw [List.getD_eq_getElem?_getD,List.getElem?_set_self h];rfl
theorem iniL_mot {S:Setup} (hp:0 <= S.players) {k:Nat} (hk:k < S.nb):∀ i,k < i -> i <= S.nb -> motC S (iniL S i) k=(S.body k).mot
  | 0,h,_=>absurd h (Nat.not_lt_zero _)
  | i+1,h,hi=>by
    have hb:=bat (S:=S) (k:=(i:Int)) (by omega) (by omega)
    have hb':=bat (S:=S) (k:=(k:Int)) (by omega) (by omega)
    by_cases e:k=i
    · subst e
      have hz:(sizeOf S).toNat=48+4 * S.players.toNat+8 * S.nb:=by unfold sizeOf;omega
      unfold motC
      rw [iniL]
      have l:(iniL S k).length=48+4 * S.players.toNat+8 * S.nb:=by rw [iniL_len,hz]
      have z0:(bodyAt S k).toNat=48+4 * S.players.toNat+8 * k:=by omega
      have z1:(bodyAt S k+1).toNat=48+4 * S.players.toNat+8 * k+1:=by omega
      have z2:(bodyAt S k+2).toNat=48+4 * S.players.toNat+8 * k+2:=by omega
      have z3:(bodyAt S k+3).toNat=48+4 * S.players.toNat+8 * k+3:=by omega
      have z4:(bodyAt S k+4).toNat=48+4 * S.players.toNat+8 * k+4:=by omega
      have z5:(bodyAt S k+5).toNat=48+4 * S.players.toNat+8 * k+5:=by omega
      rw [z0,z1,z2,z3,z4,z5]
      congr 1
      · rw [vgetD_ne (by omega),vgetD_ne (by omega),vgetD_ne (by omega),vgetD_ne (by omega),vgetD_ne (by omega),zgetD_eq (by omega)]
      · rw [vgetD_ne (by omega),vgetD_ne (by omega),vgetD_ne (by omega),vgetD_ne (by omega),zgetD_eq (by simp only [List.length_set];omega)]
      · rw [vgetD_ne (by omega),vgetD_ne (by omega),vgetD_ne (by omega),zgetD_eq (by simp only [List.length_set];omega)]
      · rw [vgetD_ne (by omega),vgetD_ne (by omega),zgetD_eq (by simp only [List.length_set];omega)]
    · have ih:=iniL_mot hp hk i (by omega) (by omega)
      rw [<- ih]
      unfold motC
      rw [iniL]
      congr 1 <;> rw [vgetD_ne (by omega),vgetD_ne (by omega),vgetD_ne (by omega),vgetD_ne (by omega),vgetD_ne (by omega),vgetD_ne (by omega)]
theorem ini_mot {S:Setup} (hV:SetV S) {i:Nat} (hi:i < S.nb):motM S ⟨iniL S S.nb,[],0⟩ (i:Int)=(S.body i).mot:=by
  have hP:=hV.pl
  exact (motC_eq (M:=⟨iniL S S.nb,[],0⟩) (by omega) (ini_te2 hV).len hi).symm.trans (iniL_mot (by omega) hi S.nb hi (Nat.le_refl _))
theorem mulDiv_one {v:Int} (h:-16384 <= v /\ v <= 16384):mulDivI v 1024 1024=v:=by
  unfold mulDivI fdivI
  rw [w64_id (by omega),if_neg (by decide),Int.mul_tmod_left,if_neg (by omega),Int.mul_tdiv_cancel _ (by decide),w64_id (by omega)]
theorem clamp_id {n lo hi:Int} (h1:lo <= n) (h2:n <= hi):clampI n lo hi=n:=by
  unfold clampI
  rw [if_neg (by omega),if_neg (by omega)]
def gX (i:Nat):Int:=10000 * ((i % 3:Nat):Int)
def gY (i:Nat):Int:=10000 * ((i / 3:Nat):Int)
theorem grid_bd {i:Nat} (h:i < 5):(0 <= gX i /\ gX i <= 20000) /\ (0 <= gY i /\ gY i <= 10000):=by
  have key:∀ i < 5,(0 <= gX i /\ gX i <= 20000) /\ (0 <= gY i /\ gY i <= 10000):=by decide
  exact key i h
theorem grid_far {i j:Nat} (hi:i < 5) (hj:j < 5) (h:i ≠ j):(10000 <= gX i - gX j \/ 10000 <= gX j - gX i) \/ (10000 <= gY i - gY j \/ 10000 <= gY j - gY i):=by
  have key:∀ i < 5,∀ j < 5,i ≠ j -> (10000 <= gX i - gX j \/ 10000 <= gX j - gX i) \/ (10000 <= gY i - gY j \/ 10000 <= gY j - gY i):=by decide
  exact key i hi j hj h
def far0 (V:Nat -> V2) (i:Nat):Mot:=⟨gX i,gY i,(V i).x,(V i).y,1024⟩
def far1 (V:Nat -> V2) (i:Nat):Mot:=⟨gX i+(V i).x,gY i+(V i).y,(V i).x,(V i).y,1024⟩
structure FarS (S:Setup) (V:Nat -> V2):Prop where
  pl:S.players=1
  nb:2 <= S.nb /\ S.nb <= 5
  bod:∀ i,i < S.nb -> ∃ A c,S.body i=⟨⟨1024,[],A,c⟩,far0 V i,0,0⟩
  box:S.box=⟨-100000,-100000,100000,100000⟩
  g:S.g=⟨0,0⟩
  push:S.push=0
  drag:S.drag=0
  rest:S.rest=0
  rounds:S.rounds=2
  fuel:S.fuel=5
  vb:∀ i,(-2000 <= (V i).x /\ (V i).x <= 2000) /\ (-2000 <= (V i).y /\ (V i).y <= 2000)
section
variable {S:Setup} {V:Nat -> V2} (h:FarS S V)
include h
theorem FarS.setV:SetV S:=⟨by rw [h.pl];decide,by have:=h.nb;omega,by rw [h.rounds];decide,by rw [h.fuel];decide⟩
theorem FarS.boxV:BoxV S:=⟨by rw [h.rest];decide,by rw [h.box];decide⟩
theorem FarS.sm:∀ k,k < S.nb -> smS (S.body k).sh:=λ k hk=>by
  obtain ⟨A,c,e⟩:=h.bod k hk
  rw [e]
  exact ⟨by show -100000 <= (1024:Int) /\ (1024:Int) <= 100000;decide,λ i=>by show (-100000 <= (0:Int) /\ (0:Int) <= 100000) /\ (-100000 <= (0:Int) /\ (0:Int) <= 100000);decide⟩
end
theorem bnd_c (A:Option Addr) (c:Nat) {p:V2} (h:(-1000000 <= p.x /\ p.x <= 1000000) /\ (-1000000 <= p.y /\ p.y <= 1000000)):bounds ⟨1024,[],A,c⟩ p=⟨p.x - 1024,p.y - 1024,p.x+1024,p.y+1024⟩:=by
  unfold bounds
  rw [if_pos (show circ ⟨1024,[],A,c⟩ from rfl),w64_id (by show _ <= p.x - 1024 /\ p.x - 1024 <= _;omega),w64_id (by show _ <= p.y - 1024 /\ p.y - 1024 <= _;omega),w64_id (by show _ <= p.x+1024 /\ p.x+1024 <= _;omega),w64_id (by show _ <= p.y+1024 /\ p.y+1024 <= _;omega)]
def FarJ (S:Setup) (V:Nat -> V2) (j:Nat) (W:MemS):Prop:=∀ k:Nat,k < S.nb -> motM S W k=if k < j then far1 V k else far0 V k
theorem far_bnd {S:Setup} {V:Nat -> V2} (h:FarS S V) {j:Nat} {W:MemS} (hJ:FarJ S V j W) {k:Nat} (hk:k < S.nb):∃ x y:Int,(gX k - 2000 <= x /\ x <= gX k+2000) /\ (gY k - 2000 <= y /\ y <= gY k+2000) /\ (j <= k -> x=gX k /\ y=gY k) /\ (motM S W k).px=x /\ (motM S W k).py=y /\ (motM S W k).vx=(V k).x /\ (motM S W k).vy=(V k).y /\ bounds (S.body k).sh ⟨x,y⟩=⟨x - 1024,y - 1024,x+1024,y+1024⟩:=by
  have hv:=h.vb k
  have hn:=h.nb
  have hg:=grid_bd (i:=k) (by omega)
  obtain ⟨A,c,e⟩:=h.bod k hk
  rw [hJ k hk,e]
  by_cases c1:k < j
  · rw [if_pos c1]
    exact ⟨gX k+(V k).x,gY k+(V k).y,by omega,by omega,λ h2=>by omega,rfl,rfl,rfl,rfl,bnd_c A c ⟨by show _ <= gX k+(V k).x /\ gX k+(V k).x <= _;omega,by show _ <= gY k+(V k).y /\ gY k+(V k).y <= _;omega⟩⟩
  · rw [if_neg c1]
    exact ⟨gX k,gY k,by omega,by omega,λ _=>⟨rfl,rfl⟩,rfl,rfl,rfl,rfl,bnd_c A c ⟨by show _ <= gX k /\ gX k <= _;omega,by show _ <= gY k /\ gY k <= _;omega⟩⟩
theorem far_no {S:Setup} {V:Nat -> V2} (h:FarS S V) {W:MemS} (hJ:FarJ S V 0 W):noO S W:=λ i j hij hj=>by
  have hn:=h.nb
  obtain ⟨x1,y1,b1,b2,e0,e1,e2,_,_,e3⟩:=far_bnd h hJ (k:=i) (by omega)
  obtain ⟨x2,y2,c1,c2,f0,f1,f2,_,_,f3⟩:=far_bnd h hJ hj
  rw [e1,e2,f1,f2,e3,f3]
  have hg:=grid_far (i:=i) (j:=j) (by omega) (by omega) (by omega)
  have:=e0 (Nat.zero_le _)
  have:=f0 (Nat.zero_le _)
  unfold ovl meetP
  dsimp only
  rcases hg with (g | g) | (g | g) <;> omega
theorem far_as {S:Setup} {V:Nat -> V2} (h:FarS S V) {i j:Nat} {W:MemS} (hJ:FarJ S V i W) (hi:i < S.nb) (hj:j < S.nb) (hij:i ≠ j):asideG S i j W:=by
  have hn:=h.nb
  have hv:=h.vb i
  have hgi:=grid_bd (i:=i) (by omega)
  obtain ⟨x1,y1,b1,b2,e0,e1,e2,e4,e5,e3⟩:=far_bnd h hJ hi
  obtain ⟨x2,y2,c1,c2,f0,f1,f2,_,_,f3⟩:=far_bnd h hJ hj
  obtain ⟨ex,ey⟩:=e0 (Nat.le_refl _)
  unfold asideG
  rw [Int.toNat_natCast,Int.toNat_natCast,e1,e2,e4,e5,f1,f2,e3,f3]
  obtain ⟨A,c,eb⟩:=h.bod i hi
  have e6:vadd ⟨x1,y1⟩ ⟨(V i).x,(V i).y⟩=⟨x1+(V i).x,y1+(V i).y⟩:=by unfold vadd;rw [w64_id (by dsimp only;omega),w64_id (by dsimp only;omega)]
  rw [e6,eb,bnd_c A c ⟨by dsimp only;omega,by dsimp only;omega⟩]
  have hg:=grid_far (i:=i) (j:=j) (by omega) (by omega) hij
  have m1:∀ a b lo:Int,lo <= a -> lo <= b -> lo <= mnI a b:=λ a b lo h1 h2=>by unfold mnI;split <;> omega
  have m2:∀ a b hi:Int,a <= hi -> b <= hi -> mxI a b <= hi:=λ a b hi h1 h2=>by unfold mxI;split <;> omega
  unfold ovl meetP hullB
  dsimp only
  have u1:=m1 (x1 - 1024) (x1+(V i).x - 1024) (gX i - 3024) (by omega) (by omega)
  have u2:=m1 (y1 - 1024) (y1+(V i).y - 1024) (gY i - 3024) (by omega) (by omega)
  have u3:=m2 (x1+1024) (x1+(V i).x+1024) (gX i+3024) (by omega) (by omega)
  have u4:=m2 (y1+1024) (y1+(V i).y+1024) (gY i+3024) (by omega) (by omega)
  rcases hg with (g | g) | (g | g) <;> omega
theorem far_sk {S:Setup} {V:Nat -> V2} (h:FarS S V) {i:Nat} {W:MemS} (hJ:FarJ S V i W) (hi:i < S.nb):∀ (k j:Nat),j+k <= S.nb -> skE S i j k W=(k:Int) - (if j <= i /\ i < j+k then 1 else 0)
  | 0,j,_=>by rw [skE,if_neg (by omega)];rfl
  | k+1,j,hk=>by
    rw [skE,far_sk h hJ hi k (j+1) (by omega)]
    by_cases c:i=j
    · rw [if_pos c,if_neg (by omega),if_pos (by omega)];omega
    · rw [if_neg c,if_pos (far_as h hJ hi (by omega) c)]
      by_cases c2:j+1 <= i /\ i < j+1+k
      · rw [if_pos c2,if_pos (by omega)];omega
      · rw [if_neg c2,if_neg (by omega)];omega
theorem far_frc {S:Setup} {V:Nat -> V2} (h:FarS S V) {i:Nat} {W:MemS} (hJ:FarJ S V i W) (hi:i < S.nb):∀ (k j:Nat),j+k <= S.nb -> frcE S i (j:Int) k 1024 W=1024
  | 0,_,_=>rfl
  | k+1,j,hk=>by
    rw [frcE]
    have e:(if (i:Int)=(j:Int) then (1024:Int) else if asideG S i j W then 1024 else if earG S i j W < 1024 then earG S i j W else 1024)=1024:=by
      by_cases c:(i:Int)=(j:Int)
      · rw [if_pos c]
      · rw [if_neg c,if_pos (far_as h hJ hi (by omega) (by omega))]
    rw [e]
    exact far_frc h hJ hi k (j+1) (by omega)
theorem mot_mv {S:Setup} (hV:SetV S) {W:MemS} (hl:(W.cs.length:Int)=sizeOf S) {i k:Nat} (hi:i < S.nb) (hk:k < S.nb) (c5:Int) {f:Int} (hf:(if w64 (c5+128) < 1024 then w64 (c5+128) else 1024)=f):motM S (trvG S i c5 W) k=if k=i then mvMot S (motM S W i) f else motM S W k:=by
  have hW:WR S W ((List.range S.nb).map λ q:Nat=>motM S W q) ((List.range S.nb).map λ q:Nat=>W.get (bodyAt S q+6)) ((List.range S.nb).map λ q:Nat=>bounds (S.body q).sh ⟨(motM S W q).px,(motM S W q).py⟩) :=
    ⟨hl,by simp,by simp,by simp,λ q hq=>by simp [hq],λ q hq=>by simp [hq],λ q hq=>by simp [hq]⟩
  have h2:=(hW.mv hV hi rfl c5 hf).b k hk
  rw [<- h2,getD_set (by simpa using hi)]
  by_cases c:k=i
  · rw [if_pos c,if_pos c];simp [hi]
  · rw [if_neg c,if_neg c];simp [hk]
theorem far_mot {S:Setup} {V:Nat -> V2} (h:FarS S V) {i:Nat} (hi:i < S.nb):mvMot S (far0 V i) 1024=far1 V i:=by
  have hv:=h.vb i
  have hn:=h.nb
  have hg:=grid_bd (i:=i) (by omega)
  have e:vadd ⟨(far0 V i).px,(far0 V i).py⟩ (vmuldiv ⟨(far0 V i).vx,(far0 V i).vy⟩ 1024 1024)=⟨gX i+(V i).x,gY i+(V i).y⟩:=by
    show vadd ⟨gX i,gY i⟩ ⟨mulDivI (V i).x 1024 1024,mulDivI (V i).y 1024 1024⟩=_
    rw [mulDiv_one (by omega),mulDiv_one (by omega)]
    unfold vadd
    rw [w64_id (by dsimp only;omega),w64_id (by dsimp only;omega)]
  unfold mvMot
  rw [e,h.box]
  unfold bncV
  dsimp only
  rw [clamp_id (by omega) (by omega),clamp_id (by omega) (by omega),if_pos rfl,if_pos rfl]
  rfl
theorem far_mv {S:Setup} {V:Nat -> V2} (h:FarS S V) {W:MemS} (hl:(W.cs.length:Int)=sizeOf S) (hA:BiA S W) {i:Nat} (hi:i < S.nb) (hJ:FarJ S V i W):FarJ S V (i+1) (mvG S i W):=λ k hk=>by
  have hV:=h.setV
  obtain ⟨A,c,e⟩:=h.bod i hi
  have hp:movP S i:=⟨⟨by omega,by omega⟩,by rw [Int.toNat_natCast,e];show (1024:Int) > 0;decide⟩
  have e1:frcG S i 0 S.nb 1024 W=1024:=by
    rw [<- frc_skip (i:=(i:Int)) hA ⟨by omega,by omega⟩ (by rw [Int.toNat_natCast];exact h.sm i hi) S.nb 0 1024 (by omega) (by omega) (by omega)]
    exact far_frc h hJ hi S.nb 0 (by omega)
  unfold mvG
  rw [if_pos hp,e1,mot_mv hV hl hi hk 1024 (f:=1024) (by rw [w64_id (by decide)];rfl)]
  by_cases c1:k=i
  · subst c1
    rw [if_pos rfl,if_pos (by omega),hJ k hk,if_neg (by omega)]
    exact far_mot h hk
  · rw [if_neg c1,hJ k hk]
    by_cases c2:k < i
    · rw [if_pos c2,if_pos (by omega)]
    · rw [if_neg c2,if_neg (by omega)]
theorem far_mvs {S:Setup} {V:Nat -> V2} (h:FarS S V):∀ (k i:Nat) {W:MemS},i+k=S.nb -> (W.cs.length:Int)=sizeOf S -> BiA S W -> FarJ S V i W -> FarJ S V S.nb (mvsG S (i:Int) k W) /\ msE S i k W=(k:Int) * ((S.nb:Int) - 1)
  | 0,i,W,hk,hl,hA,hJ=>by
    rw [mvsG,msE,<- hk]
    exact ⟨hJ,by simp⟩
  | k+1,i,W,hk,hl,hA,hJ=>by
    have hi:i < S.nb:=by omega
    obtain ⟨A,c,e⟩:=h.bod i hi
    have hm:=far_mv h hl hA hi hJ
    have hl2:((mvG S i W).cs.length:Int)=sizeOf S:=by rw [(kc_mv (S:=S) i W).len];exact hl
    have r:=far_mvs h k (i+1) (by omega) hl2 (bi_mv h.boxV hA) hm
    rw [mvsG,msE,if_pos (by rw [e];show (0:Int) < 1024;decide),far_sk h hJ hi S.nb 0 (by omega),if_pos (by omega),r.2]
    refine ⟨r.1,?_⟩
    rw [show ((k+1:Nat):Int)=(k:Int)+1 from rfl,Int.add_mul]
    omega
structure KM (S:Setup) (A B:MemS):Prop where
  len:B.cs.length=A.cs.length
  get:∀ (k:Nat) (c:Int),k < S.nb -> 0 <= c -> c < 4 -> B.get (bodyAt S k+c)=A.get (bodyAt S k+c)
theorem KM.refl {S:Setup} (A:MemS):KM S A A:=⟨rfl,λ _ _ _ _ _=>rfl⟩
theorem KM.low {S:Setup} (hP:0 <= S.players) {A B:MemS} (h:KM S A B) {i:Int} (hi:i < 48+4 * S.players) (v:Int):KM S A (B.set i v):=⟨(vset_len _ _ _).trans h.len,λ k c hk h0 h1=>by
  have e:=bat (S:=S) (k:=(k:Int)) (by omega) (by omega)
  rw [vget_ne (by omega)]
  exact h.get k c hk h0 h1⟩
theorem KM.bod {S:Setup} (hP:0 <= S.players) {A B:MemS} (h:KM S A B) {q c:Int} (h0:0 <= q) (h1:q < S.nb) (hc:4 <= c /\ c < 8) (v:Int):KM S A (B.set (bodyAt S q+c) v):=⟨(vset_len _ _ _).trans h.len,λ k d hk d0 d1=>by
  have e:=bat (S:=S) (k:=(k:Int)) (by omega) (by omega)
  have e2:=bat (S:=S) h0 h1
  rw [vget_ne (by omega)]
  exact h.get k d hk d0 d1⟩
theorem KM.same {S:Setup} {A B:MemS} (h:KM S A B) {i v:Int} (hv:B.get i=v):KM S A (B.set i v):=⟨(vset_len _ _ _).trans h.len,λ k d hk d0 d1=>by
  refine Eq.trans ?_ (h.get k d hk d0 d1)
  by_cases e:bodyAt S k+d=i
  · unfold MemS.set
    split
    · next hi =>
      rw [e,hv]
      unfold MemS.get
      simp only [List.length_set]
      rw [if_pos hi,List.getD_eq_getElem?_getD,List.getElem?_set_self (by omega)]
      rfl
    · rfl
  · exact vget_ne e⟩
theorem KM.far {S:Setup} {V:Nat -> V2} {j:Nat} {A B:MemS} (h:KM S A B) (hJ:FarJ S V j A):FarJ S V j B:=λ k hk=>by
  rw [<- hJ k hk]
  unfold motM
  rw [h.get k 0 hk (by decide) (by decide),h.get k 1 hk (by decide) (by decide),h.get k 2 hk (by decide) (by decide),h.get k 3 hk (by decide) (by decide)]
theorem km_beg {S:Setup} (hP:0 <= S.players) {A B:MemS} (h:KM S A B) (t:Stp) (a b:Int):KM S A (beginM t a b B):=((h.low hP (by omega) _).low hP (by omega) _).low hP (by omega) _
end Go.Proofs.YthoijjeddhfcnaaGreat
