import Derived.Test.YtghjbimijeinfaaGreatDoorW37
import Derived.Test.YtghjbimijeinfaaGreatDoorW38
import Derived.Test.YtghjbimijeinfaaGreatDoorRows
import Derived.Test.YtghjbimijeinfaaGreatDoorChecked
import Derived.Test.YtghjbimijeinfaaGreatDoorW20
import Derived.ProofKit
import Derived.OpenShut
import Derived.Carry
import Derived.Lay
import Derived.LaidHandle
import Derived.ChangeSlices
import Derived.Test.YtghjbimijeinfaaGreatDoorW35
import Derived.Lib.LaidTab
import Derived.MakeChecks
import Derived.Test.YtghjbimijeinfaaGreatDoorTie
import Derived.Test.YtghjbimijeinfaaGreatDoorCards
import Derived.SevenTiedAt
import Derived.JoinedOf
import Derived.KernelRfl
set_option maxHeartbeats 4000000
set_option maxRecDepth 100000
set_option linter.unusedSimpArgs false
set_option linter.unusedVariables false
namespace Go.Proofs.YtghjbimijeinfaaGreatDoor
open Go.RowKit
def Setup.std (S:Setup):Setup:={ S with bo:=0,bods:=sbods S }
theorem std_eq (S:Setup):SetEq S S.std:=⟨⟨rfl,rfl,rfl,rfl,rfl,rfl,rfl,rfl,rfl,rfl,rfl,rfl⟩,λ k hk=>⟨(S.body k).sh.A,(S.body k).sh.cap,by
 show (sbods S).getD (0+k) dB=_
 rw [Nat.zero_add,sbods_get hk]
 rfl⟩,rfl,sbods_len S⟩
section
variable {S S2:Setup} {J:Nat -> Nat × Int} {xss:List (List Inp)} {n:Nat}
end
theorem tr_len {g:Gm} (hV:SetV g.S) {M:MemS} (hph:phOk M):(trM g M).cs.length=M.cs.length:=by
  have key:Loc (λ y=>y ∈ touL g.S M) (λ A B=>A=B /\ A.cs.length=M.cs.length):=by
    refine ⟨λ _ h=>by rw [h.1],λ {A B i} v hi h=>⟨by rw [h.1],?_⟩,λ i h0 h1=>tou_mem.2 (.inl (.inl (.inl ⟨h0,h1⟩)))⟩
    rw [vset_len]
    exact h.2
  exact (tr_lo hV key ⟨rfl,rfl⟩ hph).1.1.2
def touA (S:Setup) (g:Gm):Nat -> MemS -> List Int
  | 0,_=>[]
  | n+1,M=>touL S M++touA S g n (trM g M)
theorem touL_le (S:Setup) (M:MemS):(touL S M).length <= 100:=by
  unfold touL
  have h1:=headL_len S M
  have h2:=tk_len S (Lib.compact (srt (bodsL M))) (Lib.compact (srt (bodsL M))).length
  rw [List.take_length] at h2
  have h3:=Lib.compact_length_le (srt (bodsL M))
  rw [srt_len] at h3
  have h4:=bodsL_len M
  rw [List.length_append]
  omega
theorem touA_len (S:Setup) (g:Gm):∀ (n:Nat) (M:MemS),(touA S g n M).length <= 100 * n
  | 0,_=>Nat.le_refl _
  | n+1,M=>by
    have h1:=touL_le S M
    have h2:=touA_len S g n (trM g M)
    rw [touA,List.length_append]
    omega
theorem run_in {g:Gm} (hV:SetV g.S):∀ (n:Nat) (M:MemS),goodRun g n M -> (runM g n M).cs.length=M.cs.length /\ ∀ y,¬ y ∈ touA g.S g n M -> (runM g n M).get y=M.get y
  | 0,_,h=>h.elim
  | n+1,M,h=>by
    have h1:=tr_len hV h.1
    rw [runM]
    rcases h.2 with ⟨rfl,_⟩ | ⟨_,h2⟩
    · rw [runM]
      exact ⟨h1,λ y hy=>tr_keep hV h.1 λ h3=>hy (List.mem_append_left _ h3)⟩
    · obtain ⟨h3,h4⟩:=run_in hV n _ h2
      exact ⟨h3.trans h1,λ y hy=>(h4 y λ h5=>hy (List.mem_append_right _ h5)).trans (tr_keep hV h.1 λ h5=>hy (List.mem_append_left _ h5))⟩
theorem moves_in {g:Gm} (hV:SetV g.S) {n i:Nat} {M:MemS} {cs:List Int} (h:goodRun g n M) (hc:(runM g n M).cs=cs) (hi:i < cs.length) (hn:¬ cs.getD i 0=M.cs.getD i 0):(i:Int) ∈ touA g.S g n M:=by
  subst hc
  obtain ⟨h1,h2⟩:=run_in hV n M h
  apply Decidable.byContradiction
  intro hy
  have h3:=h2 _ hy
  unfold MemS.get at h3
  rw [if_pos (by omega),if_pos (by omega)] at h3
  exact hn h3
def Stp.cut (t:Stp):Stp:={ t with S:=t.S.std }
theorem body_cut {S:Setup} {k:Nat} (h:k < S.nb):S.std.body k=S.body k:=by
  show (sbods S).getD (0+k) dB=_
  rw [Nat.zero_add]
  exact sbods_get h
theorem movP_cut {S:Setup} {k:Int}:movP S.std k ↔ movP S k:=and_congr_right λ h=>by
  have h2:0 <= k /\ k < S.nb:=h
  rw [body_cut (by omega)]
theorem mot_cut {S:Setup} {k:Int} (h:0 <= k /\ k < S.nb) (M:MemS):motM S.std M k=motM S M k:=by
  unfold motM
  rw [body_cut (by omega)]
  rfl
theorem touch_cut (t:Stp) (M:MemS):touchF t.cut M=touchF t M:=by
  unfold touchF
  refine ite_congr rfl (λ e1=>ite_congr rfl (λ e2=>?_) λ _=>rfl) λ _=>rfl
  have e1':0 <= t.i /\ t.i < t.S.nb:=e1
  have e2':0 <= t.j /\ t.j < t.S.nb:=e2
  have c1:colT t.cut M=colT t M:=by
    show collideS (t.S.std.body t.i.toNat).sh ⟨(motM t.S.std M t.i).px,(motM t.S.std M t.i).py⟩ (t.S.std.body t.j.toNat).sh ⟨(motM t.S.std M t.j).px,(motM t.S.std M t.j).py⟩=_
    rw [body_cut (by omega),body_cut (by omega),mot_cut e1',mot_cut e2']
    rfl
  have c2:resT t.cut M=resT t M:=by
    show resolveS (motM t.S.std M t.i) (motM t.S.std M t.j) (colT t.cut M).1 t.S.rest=_
    rw [c1,mot_cut e1',mot_cut e2']
    rfl
  rw [c1]
  refine ite_congr rfl (λ _=>?_) λ _=>rfl
  unfold touchSet
  rw [c2]
  rfl
theorem contact_cut (t:Stp) (M:MemS):contactF t.cut M=contactF t M:=by
  unfold contactF
  rw [touch_cut]
  rfl
theorem test_cut (t:Stp) (M:MemS) (hj:0 <= t.j /\ t.j < t.S.nb):testF t.cut M=testF t M:=by
  unfold testF
  refine ite_congr rfl (λ _=>rfl) λ _=>ite_congr (propext movP_cut) (λ e=>?_) λ _=>rfl
  have e1:0 <= t.i /\ t.i < t.S.nb:=e.1
  have c1:earT t.cut M=earT t M:=by
    show earlS (t.S.std.body t.i.toNat).sh ⟨(motM t.S.std M t.i).px,(motM t.S.std M t.i).py⟩ ⟨(motM t.S.std M t.i).vx,(motM t.S.std M t.i).vy⟩ (t.S.std.body t.j.toNat).sh ⟨(motM t.S.std M t.j).px,(motM t.S.std M t.j).py⟩ ⟨0,0⟩=_
    rw [body_cut (by omega),body_cut (by omega),mot_cut e1,mot_cut hj]
    rfl
  rw [c1]
theorem travel_cut (t:Stp) (M:MemS) (h:0 <= t.i /\ t.i < t.S.nb):travelM t.cut M=travelM t M:=by
  have c1:travelP t.cut M=travelP t M:=by
    show vadd ⟨(motM t.S.std M t.i).px,(motM t.S.std M t.i).py⟩ (vmuldiv ⟨(motM t.S.std M t.i).vx,(motM t.S.std M t.i).vy⟩ (travelF M) 1024)=_
    rw [mot_cut h]
    rfl
  unfold travelM
  rw [c1]
  rfl
theorem move_cut (t:Stp) (M:MemS):moveF t.cut M=moveF t M:=by
  unfold moveF
  refine ite_congr rfl (λ e=>?_) λ _=>?_
  · rw [test_cut t M e]
    rfl
  · show moveA t (if movP t.S.std t.i then travelM t.cut M else M)=moveA t (if movP t.S t.i then travelM t M else M)
    congr 1
    exact ite_congr (propext movP_cut) (λ e=>travel_cut t M e.1) λ _=>rfl
theorem force_cut (t:Stp) (M:MemS):forceM t.cut M=forceM t M:=by
  have h1:∀ N,forceB t.cut N=forceB t N:=λ N=>by
    unfold forceB
    refine ite_congr (propext movP_cut) (λ e=>?_) λ _=>rfl
    have e1:0 <= t.i /\ t.i < t.S.nb:=e.1
    have c1:forceV t.cut N=forceV t N:=by
      show vscale (if playerAt t.S t.i >= 0 then vadd (vadd ⟨(motM t.S.std N t.i).vx,(motM t.S.std N t.i).vy⟩ t.S.g) ⟨w64 (N.get (playerAt t.S t.i+0) * t.S.push),w64 (N.get (playerAt t.S t.i+1) * t.S.push)⟩ else vadd ⟨(motM t.S.std N t.i).vx,(motM t.S.std N t.i).vy⟩ t.S.g) (w64 (1024 - t.S.drag))=_
      rw [mot_cut e1]
      rfl
    rw [c1]
    rfl
  unfold forceM
  rw [h1]
  rfl
def Gm.cut (g:Gm):Gm:={ g with S:=g.S.std }
theorem trV_cut (g:Gm) (M:MemS):trV g.cut M=trV g M:=by
  unfold trV
  rw [show g.cut.step M=(g.step M).cut from rfl,contact_cut,move_cut,force_cut]
  rfl
theorem trE_cut (g:Gm) (M:MemS):trE g.cut M=trE g M:=rfl
theorem runM_cut (g:Gm):∀ (n:Nat) (M:MemS),runM g.cut n M=runM g n M
  | 0,_=>rfl
  | n+1,M=>by rw [runM,runM,trM,trM,trV_cut,runM_cut g n]
theorem goodRun_cut (g:Gm):∀ (n:Nat) (M:MemS),goodRun g.cut n M ↔ goodRun g n M
  | 0,_=>Iff.rfl
  | n+1,M=>by rw [goodRun,goodRun,trM,trM,trV_cut,trE_cut,goodRun_cut g n]
theorem bound_fit {S:Setup} (hS:SetV S) (hf:S.fuel=60):bndN S.players S.nb S.rounds 60=boundI S:=by
  rw [<- hf];rfl
theorem setF {xs:List Int} {S:Setup} {T:HL} (h:SetG xs S T):S.fuel=60:=by
  obtain ⟨e1,e2,e3,e4,e5,e6,e7,e8⟩:=h.nums
  exact e8
theorem tick_len {S S2:Setup} (hV:SetV S) (hf:S.fuel=60) (he:SetEq S S2) {t:Int} (ht:0 <= t /\ t <= 1000) {M:MemS} (hT:TE2 S2 t M) {xs:List Inp} (h1:(xs.length:Int)=S.players) (j:Nat × Int):∃ m,((m+1:Nat):Int) <= boundI S /\ m <= 649 /\ goodRun (gmX S2 j xs) (m+1) M /\ goodRun (gmX S j xs) (m+1) ⟨M.cs,[],0⟩ /\ (runM (gmX S j xs) (m+1) ⟨M.cs,[],0⟩).cs=(tkM (gmX S2 j xs) M).cs:=by
  have hV2:=he.setV hV
  obtain ⟨m,a1,a2,a3,_⟩:=tickE hV2 (g:=gmX S2 j xs) rfl (by show S2.players <= (xs.length:Int);rw [he.pl];omega) ht hT
  obtain ⟨_,_,_,_,_,_,_,_,_,_,e11,_⟩:=he.nums
  rw [he.pl,he.nb,e11,bound_fit hV hf] at a1
  have hb2:boundI S <= 650:=by rw [<- bound_fit hV hf];exact (bound_ok hV).2
  have a4:goodRun (gmX S2 j xs) (m+1) ⟨M.cs,[],0⟩:=goodRun_cs (M:=M) (N:=⟨M.cs,[],0⟩) rfl (m+1) a2
  have eg:GEq (gmX S j xs).cut (gmX S2 j xs):=gmB_eq2 ((std_eq S).nm2 he) j xs.length xs
  have a5:goodRun (gmX S j xs) (m+1) ⟨M.cs,[],0⟩:=(goodRun_cut _ _ _).1 ((goodRun_eq eg _ _).2 a4)
  refine ⟨m,a1,by omega,a2,a5,?_⟩
  have e1:=runM_cut (gmX S j xs) (m+1) ⟨M.cs,[],0⟩
  have e2:=runM_eq eg (m+1) ⟨M.cs,[],0⟩
  have e3:=(tk_of (by omega) a4).1
  exact congrArg MemS.cs (e1.symm.trans (e2.trans e3)) |>.trans (tkM_cs (gmX S2 j xs) rfl)
theorem moves_any (A0 AI:Option Addr) (n0 c0 nI cI:Nat) (xs xI:List Int) (i1 i3:Int) (F:HL) (hE0:TabIn F) (hE1:EffIn F) (hl0:ArgD F A0 n0 xs) (hn0:n0 <= 9223372036854775807) (hl2:ArgD F AI nI xI) (hn2:nI <= 9223372036854775807) (hi1:i64r i1) (hi3:i64r i3):Sp Tryz.prog 3 #[.slice A0 n0 c0,vI i1,.slice AI nI cI,vI i3] [] F (λ u H'=>u=.bool true /\ H'=[]):=by
 refine Sp.run Tryz.func3 rfl mn (A:=[]) (Ts:=[]) rfl λ w0=>?_
 refine RN.go 8 [] λ _=>RN.ct (Hp:=[]) (Tp:=[]) [] [] (hl0.up.use λ F_ h_=>setup_ap A0 n0 c0 xs _ h_ hn0) ?_
 rintro _ ⟨S,TS⟩ ⟨rfl,hG⟩
 dsimp only at hG
 have hF:=gfacts hl0 hG
 have hpl:=hF.pl
 have hnb:=hF.nb
 have hrn:=hF.rn
 have hdn:=hF.dn
 have hsz:=hF.sz
 have hil:=iniL_len S S.nb
 have hV:SetV S:=hl0.ex.elim λ _ h_=>setV h_ hG
 refine RN.go 7 (ow 0 16) λ n1=>RN.ct (Hp:=[]) (Tp:=[]) [] [] (bookm_any i1 _ hi1 (ro_ap hE0)) ?_
 rintro _ ⟨b2,T3⟩ ⟨rfl,hB4⟩
 dsimp only at hB4
 have hj:(around i1 5).toNat < 5:=by have:=around_bd (n:=i1) hi1 5 (by decide);omega
 generalize (around i1 5).toNat=jj at *
 refine RN.go 7 (ow 0 16) λ _=>RN.ct (Hp:=[]) (Tp:=[]) [] [] (started_any S genR (genD (kv xs 3 % 3).toNat) b2 _ (hG.sin _ (in_ap 1) (sub_ap 1)).cl (hG.maps.2 _ (sub_ap 1)) (by omega) (by omega) (by omega) (by omega) hF.val 1000000 (by decide)) ?_
 rintro _ ⟨g5,S6,T7⟩ ⟨rfl,he8,hg9⟩
 dsimp only at he8 hg9
 obtain ⟨mb_,hx_⟩:=hg9.x
 refine RN.go 14 [] λ _=>RN.draw [] []<|RD.go [] [0,1,2] (ow 0 16)<|RD.cp [] 3 (λ X_=>(around_any i3 4 (by decide) _)) ?_
 have hA10:=around_bd (n:=i3) hi3 4 (by decide)
 refine RD.goP [] [4] [.nw] [I64 (1+(around i3 4))] ?_
 obtain ⟨cnt,hcnt,hcl⟩:∃ cnt:Nat,1+(around i3 4)=(cnt:Int) /\ cnt <= 4:=⟨(1+(around i3 4)).toNat,by omega,by omega⟩
 refine RD.one 5 (RDO.ct [] (Hp:=[]) (Tp:=[]) [] [] (hl2.up.use λ F_ h_=>rows_ap S AI nI cI xI (1+(around i3 4)) cnt F_ h_ hn2 (by omega) hcnt (by omega)) ?_)
 rintro _ ⟨⟨A11,c12,rs13⟩,E14,T15⟩ ⟨rfl,hs16,hl17,hT18⟩
 dsimp only at hs16 hl17 hT18
 have hgr:∀ i,i < cnt -> RowOk S.players ((rowsG S.players xI cnt).getD i []):=λ i hi=>hl2.ex.elim λ _ h_=>gen_rows h_ (by omega) cnt i hi
 refine RD.go [] [6] []<|RD.fin<|RN.go 3 [] λ _=>?_
 have hcp_:0 < cnt:=by omega
 obtain ⟨bR,oR,fR,rfl,rfl,hfl,hrc,hfd⟩:=hs16.resolve_left (λ h_=>by have h1_:=h_.2.2.1;subst h1_;simp at hl17;omega)
 refine RN.ot 0 (x:=(bR,.rows 1 (oR+c12) (rowE rwE fR) 56 (0,0)))<|RN.go 5 [] λ _=>RN.loop (σ:=Nat × MemS × HL) (λ ⟨i_,M_,G_⟩=>⟨[(9,vP (n1+0) 0),(10,vP b2 0),(11,vP g5 0),(12,vS bR (oR * 1) cnt c12),(13,vI (i_:Int))],[(bR,.rows 1 (oR+c12) (rowE rwE fR) 56 (0,0)),((n1+0),.lit (Setup.l S) 31 (0,0)),(S.bb,.rows 9 S.bR (brow S.bods) 106 (0,0))],[T15,G_,T3,TS],i_ <= cnt /\ TE2 S6 (i_:Int) M_ /\ GameX genR (genD (kv xs 3 % 3).toNat) b2 g5 mb_ S6 M_ (500000+20000 * (cnt - i_)) G_,cnt - i_⟩) (0,⟨iniL S S.nb,[],0⟩,T7) [0,1,2] [0,1,2,3] (⟨Nat.zero_le _,ini_eq hV he8,hx_.weak (by omega)⟩) ?_
 rintro ⟨i_,M_,G_⟩ ⟨hi_,hte_,hg_⟩ mt20
 refine RN.go 9 [] λ _=>RN.em ((i_:Int) < (cnt:Int)) 44 (λ h21=>?_) λ h21=>?_
 ·refine RN.go 6 [] λ _=>?_
  obtain ⟨bk,ok,Nk,fk,ck,ek,hIk,hik,hxk,hck⟩:=(hT18 T15 (λ x hx=>hx)).get (k:=i_) (by omega)
  have hgk_:fR.getD (oR+i_) rwE.dflt=rs13.getD i_ rwE.dflt:=take_drop_get hfd (by omega) _
  have hrow_:=hgr i_ (by omega)
  have hrl0_:((rowsG S.players xI cnt).getD i_ []).length <= 1000:=by have h_:=hrow_.1;omega
  obtain ⟨m,hbd_,hm_,hgd_,hgr0_,hcs_⟩:=tick_len hV (setF hG) he8 (t:=(i_:Int)) (by omega) hte_ (xs:=((rowsG S.players xI cnt).getD i_ [])) hrow_.1 (jj,0)
  have htk_:=tk_ok1 (he8.setV hV) (t:=(i_:Int)) (by omega) hte_ (xs:=((rowsG S.players xI cnt).getD i_ [])) (by rw [he8.pl];exact hrow_.1) hrow_.2 (jj,0)
  have hte2_:TE2 S6 ((i_+1:Nat):Int) (tkM (gmX S6 (jj,0) ((rowsG S.players xI cnt).getD i_ [])) M_):=by have h_:=htk_.2;exact_mod_cast h_
  have hl1_:=hte_.len
  rw [he8.size] at hl1_
  have hl2_:=hte2_.len
  rw [he8.size] at hl2_
  generalize hNe_:tkM (gmX S6 (jj,0) ((rowsG S.players xI cnt).getD i_ [])) M_=N2_ at *
  refine RN.go 2 [] λ _=>RN.cp (gmemX hg_ (sub_ap 1))<|RN.ct (Hp:=[]) (Tp:=[]) [] [] (cellsX hg_ (sub_ap 1)) ?_
  rintro _ q22 rfl
  refine RN.go 6 [] λ _=>RN.ct (Hp:=[]) (Tp:=[]) [] [] (newn_any q22 M_.cs M_.cs.length (20 * m+40) M_.cs.length _ rfl (in_ap 0) (by omega) (by omega) (Nat.le_refl _)) ?_
  rintro _ ⟨mq,Tq⟩ ⟨rfl,hMq⟩
  dsimp only at hMq
  refine RN.go 7 [] λ _=>RN.ct (Hp:=[]) (Tp:=[]) [] [] (hB4.at (sub_ap 3) hj (i_:Int) (by omega) _ (λ x hx=>hx)) ?_
  rintro _ ⟨A23,c24,T25⟩ ⟨rfl,hc26⟩
  dsimp only at hc26
  refine RN.go 25 [.own 0,.own 0,.own 0,.own 0] λ n27=>RN.nt<|RN.loop (σ:=Nat × Nat × Bool × MemS × HL × List Int × Option Addr × Nat × HL) (λ ⟨r,s_,e_,N_,T_,l_,A_,c_,E_⟩=>⟨[(9,vP (n1+0) 0),(10,vP b2 0),(11,vP g5 0),(12,vS bR (oR * 1) cnt c12),(13,vI (i_:Int)),(14,vS q22 0 M_.cs.length M_.cs.length),(15,vP mq 0),(16,vI 0),(17,vP (n27+0) 0),(18,.slice A_ l_.length c_),(19,vI (s_:Int)),(20,.bool e_)],[((n27+0),.lit [.slice A23 (lenB jj) c24,vI (entI jj 0),vI (entI jj 1),vI (entI jj 2)] 47 (0,0)),(q22,.rows 1 M_.cs.length (irow M_.cs) 3 (0,0)),(bR,.rows 1 (oR+c12) (rowE rwE fR) 56 (0,0)),((n1+0),.lit (Setup.l S) 31 (0,0)),(S.bb,.rows 9 S.bR (brow S.bods) 106 (0,0))],[E_,T25,T_,T15,G_,T3,TS],s_ <= m+1 /\ MemH mq N_ (20 * (m+1 - s_)+20) T_ /\ SlIs intE 3 l_ A_ c_ E_ /\ l_.length <= 100 * s_ /\ ((e_=false /\ s_+(r+1)=m+1 /\ goodRun (gmX S (jj,0) ((rowsG S.players xI cnt).getD i_ [])) (r+1) N_ /\ runM (gmX S (jj,0) ((rowsG S.players xI cnt).getD i_ [])) (r+1) N_=runM (gmX S (jj,0) ((rowsG S.players xI cnt).getD i_ [])) (m+1) ⟨M_.cs,[],0⟩ /\ l_++touA S (gmX S (jj,0) ((rowsG S.players xI cnt).getD i_ [])) (r+1) N_=touA S (gmX S (jj,0) ((rowsG S.players xI cnt).getD i_ [])) (m+1) ⟨M_.cs,[],0⟩) \/ (e_=true /\ s_=m+1 /\ N_=runM (gmX S (jj,0) ((rowsG S.players xI cnt).getD i_ [])) (m+1) ⟨M_.cs,[],0⟩ /\ l_=touA S (gmX S (jj,0) ((rowsG S.players xI cnt).getD i_ [])) (m+1) ⟨M_.cs,[],0⟩)),m+1 - s_⟩) (m,0,false,⟨M_.cs,[],0⟩,Tq,[],none,0,[]) [0,1,2,3,4] [0,1,2,3,4,5,6] (⟨Nat.zero_le _,hMq.weak (by omega),SlIs.nil _ _,Nat.zero_le _,.inl ⟨rfl,by omega,hgr0_,rfl,rfl⟩⟩) ?_
  rintro ⟨r,s_,e_,N_,T_,l_,A_,c_,E_⟩ ⟨hs0_,hM_,hs_,hll_,hst_⟩ mt29
  refine RN.go 6 [] λ _=>RN.eB (e_) 60 (λ h30=>?_) λ h30=>?_
  ·obtain ⟨_,hd_,hNq_,hto_⟩:=hst_.resolve_left (λ h_=>by have h2_:=h_.1;rw [h2_] at h30;cases h30)
   refine RN.goP 20 [.ix i_,.row 2 (oR+i_) 0] [(oR * 1+i_ * 1)=(oR+i_) * 1+0 /\ (oR+i_) < (oR+c12),(i_:Int)=((i_:Nat):Int) /\ i_ < cnt] λ _=>RN.sv 93 (congrArg (λ v_:Rw=>Value.slice v_.A v_.n v_.c) (hgk_.trans ek))<|RN.ct [] [4] (tick_tkm (c:=ck) (k:=(500000+20000 * (cnt - (i_+1)))) (j:=(jj,0)) (hg_.weak (by omega)) hj (hB4.at (sub_ap 4) hj _ (by rw [hte_.t0];omega)) (ro_ap hE1) ((sub_ap 3) _ hIk) hik (by omega) hxk (by omega) hgd_ htk_.1.now htk_.1.ok) ?_
   rintro _ ⟨v31,T32,E33⟩ ⟨hg34,rfl⟩
   dsimp only at hg34
   rw [hNe_] at hg34
   refine RN.go 12 [] λ _=>RN.cp (gmemX hg34 (sub_ap 0))<|RN.ct (Hp:=[]) (Tp:=[]) [] [] (cellsX hg34 (sub_ap 0)) ?_
   rintro _ q35 rfl
   refine RN.go 14 [] λ _=>RN.fx 108 (nt (decide_eq_true (show ((m+1:Nat):Int)=(s_:Int) by omega)))<|RN.go 2 [] λ _=>RN.ct (Hp:=[]) (Tp:=[]) [] [] (cells_ap mq N_ _ T_ _ hM_ (sub_ap 4)) ?_
   rintro _ q36 rfl
   refine RN.cp (sameI_b true q35 q36 N2_.cs.length N_.cs.length N2_.cs.length N_.cs.length N2_.cs.length N_.cs.length N2_.cs N_.cs _ (in_ap 1) (in_ap 0) (Nat.le_refl _) (Nat.le_refl _) (by omega) (decide_eq_true ⟨by rw [hNq_,hcs_],λ t ht=>by rw [hNq_,hcs_]⟩))<|RN.go 11 [] λ _=>RN.fx 121 (nt (decide_eq_true (show (N2_.cs.length:Int)=(M_.cs.length:Int) by omega)))<|RN.go 9 [] λ _=>RN.loop (σ:=Nat) (λ k_=>⟨[(9,vP (n1+0) 0),(10,vP b2 0),(11,vP g5 0),(12,vS bR (oR * 1) cnt c12),(13,vI (i_:Int)),(14,vS q22 0 M_.cs.length M_.cs.length),(18,.slice A_ l_.length c_),(24,vS q35 0 N2_.cs.length N2_.cs.length),(25,vI (k_:Int))],[(q36,.rows 1 N_.cs.length (irow N_.cs) 3 (0,0)),(q35,.rows 1 N2_.cs.length (irow N2_.cs) 3 (0,0)),((n27+0),.lit [.slice A23 (lenB jj) c24,vI (entI jj 0),vI (entI jj 1),vI (entI jj 2)] 47 (0,0)),(q22,.rows 1 M_.cs.length (irow M_.cs) 3 (0,0)),(bR,.rows 1 (oR+c12) (rowE rwE fR) 56 (0,0)),((n1+0),.lit (Setup.l S) 31 (0,0)),(S.bb,.rows 9 S.bR (brow S.bods) 106 (0,0))],[T32,E33,E_,T25,T_,T15,T3,TS],k_ <= N2_.cs.length,N2_.cs.length - k_⟩) 0 [0,1,2,3,4,5,6] [0,1,2,3,4,5,6,7] (Nat.zero_le _) ?_
   rintro k_ hk_ mt38
   refine RN.go 9 [] λ _=>RN.em ((k_:Int) < (N2_.cs.length:Int)) 125 (λ h39=>?_) λ h39=>?_
   ·refine RN.go 6 [] λ _=>RN.draw [] []<|RD.goP [] [0,1,4,5,2,6,3,7,8,9] [.ix k_,.ix k_,.row 1 k_ 0,.row 3 k_ 0] [(0+k_ * 1)=k_ * 1+0 /\ k_ < M_.cs.length,(0+k_ * 1)=k_ * 1+0 /\ k_ < N2_.cs.length,(k_:Int)=((k_:Nat):Int) /\ k_ < M_.cs.length,(k_:Int)=((k_:Nat):Int) /\ k_ < N2_.cs.length]<|RD.en (N2_.cs.getD k_ 0=M_.cs.getD k_ 0) 137 (λ h40=>?_) λ h40=>?_
    ·refine RD.go [] [10,11,12,13,14] []<|RD.fin<|RN.goP 10 [.nw] [I64 ((k_:Int)+1)] λ _=>?_
     refine mt38 (k_+1) [0,1,2,3,4,5,6] [0,1,2,3,4,5,6,7] ?_
     try dsimp only
     exact ⟨by omega,by omega⟩
    ·refine RD.go [] [10,11] []<|RD.cp [] 12 (λ X_=>(hasL_any (cap:=c_) (hs_.toRowL (sub_apX 2)) rfl (by omega) (by rw [hto_];exact moves_in (g:=(gmX S (jj,0) ((rowsG S.players xI cnt).getD i_ []))) hV hgr0_ hcs_ (by omega) h40)))<|RD.go [] [13,14] []<|RD.fin<|RN.goP 10 [.nw] [I64 ((k_:Int)+1)] λ _=>?_
     refine mt38 (k_+1) [0,1,2,3,4,5,6] [0,1,2,3,4,5,6,7] ?_
     try dsimp only
     exact ⟨by omega,by omega⟩
   ·refine RN.goP 12 [.nw] [I64 ((i_:Int)+1)] λ _=>?_
    refine mt20 (i_+1,N2_,T32) [4,5,6] [5,0,6,7] ?_
    try dsimp only
    refine ⟨⟨by omega,hte2_,hg34.weak (by omega)⟩,by omega⟩
  ·obtain ⟨_,hd_,hgood_,hrun_,hto_⟩:=hst_.resolve_right (λ h_=>h30 h_.1)
   refine RN.go 2 (ow 3 16) λ _=>RN.cp (bound_any S _)<|RN.go 4 [] λ _=>RN.em ((s_:Int) <= boundI S) 65 (λ h41=>?_) λ h41=>?_
   ·refine RN.go 11 (ow 3 16) λ _=>RN.ct (Hp:=[]) (Tp:=[]) [] [] (touches_any mq _ N_ S T_ _ hF.setN hM_ (sub_ap 2)) ?_
    rintro _ ⟨l42,A43,c44,T45⟩ ⟨rfl,hs46,hz47,e48⟩
    dsimp only at hs46 hz47 e48
    subst e48
    refine RN.appU (c':=c44) (tx:=22) intEOk l_ (touL S N_) 1 rfl hs_ (by have h_:=touL_le S N_;omega) (hs46.src intEOk (by decide) (sub_ap 0)) ?_
    rintro A49 c50 T51 ⟨hs52,hz53⟩
    refine RN.go 3 [] λ _=>RN.draw [9] []<|RD.goP [] [0,2,3,4,5,6,1,7,8] (ow 3 16++[.own 0,.own 0,.own 0,.own 0,.ix i_,.row 2 (oR+i_) 0]) [(oR * 1+i_ * 1)=(oR+i_) * 1+0 /\ (oR+i_) < (oR+c12),(i_:Int)=((i_:Nat):Int) /\ i_ < cnt]<|RD.sv 83 (congrArg (λ v_:Rw=>Value.slice v_.A v_.n v_.c) (hgk_.trans ek))<|RD.one 9 (RDO.ct [] [] [3] (trans_nm (g:=(⟨S,A23,lenB jj,c24,entI jj 0,entI jj 1,entI jj 2,0,bk,ok,((rowsG S.players xI cnt).getD i_ []).length,ck,Nk,fk,insB jj⟩:Gm)) (g0:=(gmX S (jj,0) ((rowsG S.players xI cnt).getD i_ []))) (gmB_eq (j:=(jj,0)) hxk) mq N_ (20 * (m+1 - s_)) T_ _ hM_ ⟨hG.sin _ (in_ap 4) (sub_ap 6),(sub_ap 3) _ hIk,⟨hik,Nat.le_trans hrl0_ (by decide)⟩,ro_ap hE1,hc26.code hj (sub_ap 2)⟩ hgood_.1 0 rfl) ?_)
    rintro _ T54 ⟨hM55,rfl⟩
    refine RD.go [] [10,11,12,13,14] []<|RD.fin<|RN.goP 7 [.nw] [I64 ((s_:Int)+1)] λ _=>RN.sv 19 (congrArg (λ v_=>(vI v_:Value)) (show (s_:Int)+1=((s_+1:Nat):Int) by omega))<|RN.sv 18 (congrArg (λ v_=>(.slice A49 v_ c50:Value)) (show l_.length+(touL S N_).length=(l_++touL S N_).length by rw [List.length_append])) ?_
    refine mt29 (r - 1,s_+1,trE (gmX S (jj,0) ((rowsG S.players xI cnt).getD i_ [])) N_,(trM (gmX S (jj,0) ((rowsG S.players xI cnt).getD i_ [])) N_),T54,l_++touL S N_,A49,c50,T51) [0,1,2,3,4] [1,3,0,4,5,6,7] ?_
    try dsimp only
    refine ⟨⟨by omega,hM55.weak (by omega),hs52,by rw [List.length_append];have h_:=touL_le S N_;omega,?_⟩,by omega⟩
    rcases hgood_.2 with ⟨e1_,e2_⟩ | ⟨e1_,e2_⟩
    ·subst e1_
     exact .inr ⟨e2_,by omega,hrun_,by rw [<- hto_];show _=l_++(touL S N_++[]);rw [List.append_nil]⟩
    ·rcases r with _ | r
     ·exact e2_.elim
     ·exact .inl ⟨e1_,by omega,e2_,hrun_,by rw [List.append_assoc];exact hto_⟩
   ·(exfalso;omega)
 ·refine RN.go 8 [] λ _=>RN.cp (lives_in (ro_ap hE0))<|RN.go 3 [] λ _=>?_
  exact RN.ret [] [] [] ⟨rfl,rfl⟩
open Go.ChangeShapes Go.WideShapes Go.ChangeAt
theorem own_knob:ownKnob Tryz.prog.godebug=none:=by kernel_rfl
theorem laid_out:laidOutB Tryz.prog=true:=by kernel_rfl
theorem int_range {n:Int} (h:(Lit.int .i64 n).wf=true):-9223372036854775808 <= n /\ n <= 9223372036854775807:=bounds_i64 h
section
variable {H:Type} {enc:TypeId × Value -> H} {P:Program} {W W':World}
theorem trodAll_below (hl:laidOutB P=true) (hb:Below W.heap.size W W'):∀ {ts:List TypeId} {vs:List Value} {ds:List (DataW H)} {ps:List MemPlace},(∀ t ∈ ts,P.readableRec t=true /\ t < P.types.size) ->
    DataW.TrodAll enc P W 0 (λ _=>true) true ts vs ds ps -> (∀ x ∈ ps,x.block < W.heap.size) -> DataW.TrodAll enc P W' 0 (λ b=>decide (b < W.heap.size)) true ts vs ds ps
  | [],_,_,_,_,h,_=>by
    obtain ⟨rfl,rfl,rfl⟩:=trodAll_nil h
    exact trodAll_mk0
  | t :: ts,_,_,_,ht,h,hlt=>by
    obtain ⟨v,vs1,d,ds1,a,b,rfl,rfl,rfl,h1,h2⟩:=trodAll_cons h
    have h3:=ht t (by simp)
    exact trodAll_cons_mk (Below.trod hl h3.1 h3.2 h1 hb (λ x hx=>hlt x (by simp [hx]))) (trodAll_below hl hb (λ t h=>ht t (List.mem_cons_of_mem _ h)) h2 (λ x hx=>hlt x (by simp [hx])))
theorem post_law {f:Func} {s:ChangeSpec} {apart fresh handsOn:Bool} {args:Array Value} {v:Value} {ds:List (DataW H)} {before:List MemPlace} (hl:laidOutB P=true)
    (hts:∀ t ∈ f.params.toList,P.readableRec t=true /\ t < P.types.size)
    (hW:DataW.Whole enc P f.params.toList s.vars apart W args.toList ds [] before) (hs:s.vars=[])
    (hA:DataW.TrodAll enc P W 0 (λ _=>true) true f.params.toList args.toList ds before)
    (hres:∀ (b:Nat) (sp:Nat -> Bool) (hd:Bool),DataW.TrodAll enc P W' b sp hd f.resultTypes.toList (v.resultList f.resultTypes.size) (s.fn H (ds++[])).results [])
    (hargs:(s.fn H (ds++[])).args=ds) (hvars:∀ sp,DataW.TrodVars enc P W' sp s.vars (s.fn H (ds++[])).vars []) (hb:Below W.heap.size W W') :
    s.post enc P f apart fresh handsOn false W args v W':=by
  refine ⟨ds,[],before,[],before,[],hW,hres _ _ _,?_,hvars _,hb.frame _,λ h=>by cases h⟩
  rw [hargs]
  exact trodAll_below hl hb hts hA (λ x hx=>hW.lt x hx)
end
def blkOf:Obj -> Blk
  | .cells cs ty fz=>.rows 1 cs.size (λ i _=>cs.getD i default) ty fz
  | o=>.obj o
theorem blkOf_den (o:Obj):(blkOf o).den=o:=by
  cases o with
  | cells cs ty fz =>
    show Obj.cells ⟨rowsOf 1 (λ i _=>cs.getD i default) cs.size⟩ ty fz=_
    congr 1
    have e:rowsOf 1 (λ i _=>cs.getD i default) cs.size=cs.toList:=by
      refine rowsOf_ext (by simp) ?_
      intro i k hi hk
      obtain rfl:k=0:=by omega
      simp [Array.getD,hi]
    rw [e]
  | _=>rfl
def worldF (w:World):HL:=List.ofFn (λ k:Fin w.heap.size=>(k.1,blkOf w.heap[k.1]))
theorem worldF_mem {w:World} {k:Nat} {o:Obj} (h:w.heap[k]?=some o):(k,blkOf o) ∈ worldF w:=by
  obtain ⟨hk,he⟩:=Array.getElem?_eq_some_iff.1 h
  exact List.mem_ofFn.2 ⟨⟨k,hk⟩,by simp [he]⟩
theorem worldF_rel (w:World):Rel (worldF w) w:=by
  refine ⟨λ x hx=>?_,?_⟩
  · obtain ⟨k,rfl⟩:=List.mem_ofFn.1 hx
    simp [blkOf_den]
  · unfold worldF
    rw [List.map_ofFn]
    have e:List.ofFn ((λ x:Nat × Blk=>x.1) ∘ λ k:Fin w.heap.size=>(k.1,blkOf w.heap[k.1]))=List.range w.heap.size:=by
      apply List.ext_getElem
      · simp
      · intro i h1 h2;simp
    rw [e]
    exact List.nodup_range
theorem Sp.callsW {P:Program} {f:FuncId} {args:Array Value} {v:Value} (w:World) (h:Sp P f args [] (worldF w) (λ u H'=>u=v /\ H'=[])):Calls P f args w λ e w'=>e=.returned v /\ Below w.heap.size w w':=by
  refine (h w (worldF_rel w)).mono ?_
  rintro e w' ⟨u,H',rfl,⟨rfl,rfl⟩,hR',hB⟩
  refine ⟨rfl,hB.os,hB.tape,hB.output,hB.size,λ k hk=>?_⟩
  have:=hR'.holds (k,blkOf w.heap[k]) (by rw [List.nil_append];exact worldF_mem (by simp [hk]))
  rw [this]
  simp [blkOf_den,hk]
theorem open_arg {H:Type} {enc:TypeId × Value -> H} {w:World} {r:Reach} {b0:Nat} {v:Value} {d:DataW H} {ps:List MemPlace} (hval:Value.okWide Tryz.prog w r b0 22 v) (hd:DataW.Trod enc Tryz.prog w 0 (λ _=>true) true 22 v d ps) :
    ∃ (A:Option Addr) (n cap:Nat) (xs:List Int),v=.slice A n cap /\ n <= 9223372036854775807 /\ ArgL (worldF w) A n xs /\ n <= cap:=by
  obtain ⟨a0,len,cap,rfl⟩:=okWide_slice Tryz.underlying22 hval
  obtain ⟨fuel,hf⟩:=hd
  rcases open_ints Tryz.underlying22 Tryz.underlying3 (by kernel_rfl) hf with ⟨hcs,hx⟩ | ⟨a,len',cap',zs,hcs,_,hl,hm,hz,hx,hcell,hwz⟩
  · simp [Value.cells] at hcs
    obtain ⟨rfl,rfl,rfl⟩:=hcs
    exact ⟨none,0,0,[],rfl,by omega,.zero _,Nat.le_refl _⟩
  · simp [Value.cells] at hcs
    obtain ⟨rfl,rfl,rfl⟩:=hcs
    unfold maxLen at hm
    simp at hz
    rcases Nat.eq_zero_or_pos len with h0 | hpos
    · subst h0
      exact ⟨some a,0,_,[],rfl,by omega,.zero _,Nat.zero_le _⟩
    · have hlz:len <= zs.length:=by omega
      obtain ⟨b,off,spot⟩:=a
      have c0:=hcell 0 (by omega)
      have hsp:spot=none:=by
        cases spot with
        | none=>rfl
        | some s=>simp [Addr.add,World.cell?] at c0;split at c0 <;> simp at c0
      subst hsp
      have hc:∀ i,i < zs.length -> w.cell? ⟨b,off+i,none⟩=some (.int .i64 (zs.getD i 0)):=λ i hi=>by
        have:=hcell i hi
        unfold Addr.add at this
        by_cases h:i=0
        · subst h;simpa using this
        · rw [if_neg h] at this;exact this
      have h0:=hc 0 (by omega)
      unfold World.cell? at h0
      split at h0
      case h_2=>cases h0
      rename_i cs ty fz hb
      refine ⟨some ⟨b,off,none⟩,len,cap,zs.take len,rfl,by omega,?_,hl⟩
      have hlen:(zs.take len).length=len:=by rw [List.length_take];omega
      have hcs:∀ k,k < len -> cs[off+k]?=some (vI ((zs.take len).getD k 0)):=λ k hk=>by
        have h1:=hc k (by omega)
        unfold World.cell? at h1
        rw [show w.heap[(⟨b,off+k,none⟩:Addr).block]?=some (.cells cs ty fz) from hb] at h1
        have h2:cs[off+k]?=some (.int .i64 (zs.getD k 0)):=by simpa using h1
        rw [h2]
        simp [List.getD_eq_getElem?_getD,List.getElem?_take,hk]
      have hmem:=worldF_mem hb
      have hle:off+len <= cs.size:=by
        have h1:=hcs (len - 1) (by omega)
        have h2:=(Array.getElem?_eq_some_iff.1 h1).1
        omega
      have:=ArgL.cells (F:=worldF w) b off cs.size (λ i _=>cs.getD i default) ty fz (zs.take len) hmem (by rw [hlen];exact hle) (λ k hk=>by
        rw [hlen] at hk
        have h1:=hcs k hk
        simp only [Array.getD_eq_getD_getElem?]
        rw [h1];rfl) (λ k hk=>by
        rw [hlen] at hk
        have:(zs.take len).getD k 0 ∈ zs:=by
          rw [List.getD_eq_getElem?_getD,List.getElem?_eq_getElem (by omega)]
          exact List.mem_of_mem_take (List.getElem_mem _)
        exact int_range (hwz _ this))
      rw [hlen] at this
      exact this
theorem cells_of_tabS {H:Type} {enc:TypeId × Value -> H} {P:Program} {w:World} {base:Nat} {sp:Nat -> Bool} {held:Bool} {fuel:Nat} {t e:TypeId} {n m:Nat} {k:IntKind} {fs:Array Field} {cs:List Value} {zs:List (List Int)} {p:List MemPlace}
    (ht:P.underlying t=some (.array n e)) (he:P.underlying e=some (.struct fs)) (hce:P.cellsOf e=m) (hct:P.cellsOf t=n * m) (hm:0 < m) (hfl:fs.toList.length=m)
    (hf:∀ (j:Nat) f,fs.toList[j]?=some f -> P.underlying f.type=some (.int k) /\ P.cellsOf f.type=1 /\ f.offset=j) (hz:∀ z ∈ zs,z.length=m)
    (h:DataW.trod enc P w base sp held fuel t cs=some (.agg (zs.map λ z=>.agg (z.map λ x=>.lit (.int k x))),p)) :
    cs.length=n * m /\ zs.length=n /\ ∀ i j,i < n -> j < m -> cs[i * m+j]?=some (.int k ((zs.getD i []).getD j 0)):=by
  cases fuel with
  | zero=>simp [DataW.trod] at h
  | succ fuel =>
    simp only [DataW.trod,ht,hce,hct] at h
    split at h
    case isFalse=>cases h
    rename_i hl
    obtain ⟨xs,hmm,hx⟩:=Option.map_eq_some_iff.1 h
    have hxs:xs.map (·.1)=zs.map λ z=>(DataW.agg (z.map λ x=>.lit (.int k x)):DataW H):=by
      have:=congrArg Prod.fst hx
      simpa using this
    have hxl:xs.length=n:=by simpa using Lib.mapM_length hmm
    have hzl:zs.length=n:=by
      have:=congrArg List.length hxs
      simp at this
      omega
    refine ⟨hl,hzl,λ i j hi hj=>?_⟩
    obtain ⟨b,hb,hfb⟩:=Lib.mapM_at hmm i i (by simp [hi])
    have hbz:b.1=.agg ((zs.getD i []).map λ x=>.lit (.int k x)):=by
      have h2:(xs.map (·.1))[i]?=some b.1:=by simp [hb]
      rw [hxs,List.getElem?_map,List.getElem?_eq_getElem (by omega)] at h2
      simp only [Option.map_some,Option.some.injEq] at h2
      rw [<- h2,List.getD_eq_getElem?_getD,List.getElem?_eq_getElem (by omega)]
      rfl
    have hzi:(zs.getD i []).length=m:=by
      rw [List.getD_eq_getElem?_getD,List.getElem?_eq_getElem (by omega)]
      exact hz _ (List.getElem_mem _)
    cases fuel with
    | zero=>simp [DataW.trod] at hfb
    | succ fuel =>
      have hfb':=hfb
      simp only [DataW.trod,he,hce] at hfb'
      split at hfb'
      case isFalse=>cases hfb'
      rename_i hcl
      obtain ⟨ys,hym,hy⟩:=Option.map_eq_some_iff.1 hfb'
      have hys:ys.map (·.1)=(zs.getD i []).map λ x=>(DataW.lit (.int k x):DataW H):=by
        have:=congrArg Prod.fst hy
        rw [hbz] at this
        simpa using this
      have hfj:fs.toList[j]?=some (fs.toList[j]'(by omega)):=List.getElem?_eq_getElem (by omega)
      obtain ⟨c,hc,hfc⟩:=Lib.mapM_at hym j _ hfj
      obtain ⟨f1,f2,f3⟩:=hf j _ hfj
      rw [f2,f3] at hfc
      obtain ⟨x,hcx,hcd,_⟩:=DataW.trod_int f1 hfc
      have h1:(((cs.drop (i * m)).take m).drop j).take 1=[.int k x]:=hcx
      have h2:cs[i * m+j]?=some (.int k x):=by
        have:=congrArg (·[0]?) h1
        simpa [List.getElem?_take,List.getElem?_drop,hj] using this
      have h3:(ys.map (·.1))[j]?=some (DataW.lit (.int k x):DataW H):=by simp [hc,hcd]
      rw [hys,List.getElem?_map,List.getElem?_eq_getElem (by omega)] at h3
      simp only [Option.map_some,Option.some.injEq,DataW.lit.injEq,Lit.int.injEq,true_and] at h3
      have h4:∀ l:List Int,(hl:j < l.length) -> l[j]=l.getD j 0:=λ l hl=>by simp [List.getD_eq_getElem?_getD,hl]
      rw [h2,<- h3,h4 _ (by omega)]
theorem returnsInHanded_shaped {H:Type} {enc:TypeId × Value -> H} {a:Assume} {C:Checked} {os:Os} {f:FuncId} {fn:Func} {s:ChangeSpec} {conds:List PathCond} {apart fresh handsOn again:Bool} {X:World -> Array Value -> Prop}
    (hX:∀ (w w':World) (args:Array Value),w.heap=w'.heap -> X w args -> X w' args)
    (own:ownKnob C.prog.godebug=none) (started:os.Started) (noInit:C.prog.inits.idxOf? f=none) (hfn:C.prog.funcs[f]?=some fn)
    (witness:∃ (w:World) (tape:Tape) (i:Input),w.os=os /\ (w.forCall tape i).Shaped C.prog /\ i.vars=[] /\ Input.okWide C.prog (w.forCall tape i) .any w.heap.size f i /\
      ((s.pre enc C.prog fn conds apart (w.forCall tape i).memory i.args /\ X (w.forCall tape i).memory i.args) /\ sizedMet enc C.prog fn (OpenSpec.ofChange s) apart (w.forCall tape i).memory i.args) /\ a.holds C.prog (lone (Frame.enter C.prog f i.args .normal) [] (w.forCall tape i)))
    (contract:∀ (W:World) (base:Nat) (args:Array Value) (ds gs:List (DataW H)) (before:List MemPlace),W.ShapedOpen C.prog ->
      (∀ (j:Nat) t v,fn.params[j]?=some t -> args[j]?=some v -> Value.okWide C.prog W .any base t v) ->
      DataW.Whole enc C.prog fn.params.toList s.vars apart W args.toList ds gs before -> X W args ->
      Calls C.prog f args W λ e W'=>∃ v,e=.returned v /\ s.post enc C.prog fn apart fresh handsOn again W args v W') :
    ReturnsInHanded a C os f .any (λ w args=>(s.pre enc C.prog fn conds apart w args /\ X w args) /\ sizedMet enc C.prog fn (OpenSpec.ofChange s) apart w args) (s.post enc C.prog fn apart fresh handsOn again):=by
  refine returnsInHanded_of_calls own started noInit witness ?_
  intro w tape i _ hsh _ hok hpre hholds
  obtain ⟨_,_,_,fn',hfn',_,_,_,_,hval⟩:=hok
  have e:fn'=fn:=Option.some.inj (hfn'.symm.trans hfn)
  subst e
  obtain ⟨⟨⟨ds,gs,before,hw,hc⟩,hx⟩,hz⟩:=hpre
  have hw':=DataW.Whole.of_heap (w':=w.forCall tape i) (by rfl) hw
  refine (contract (w.forCall tape i) w.heap.size i.args ds gs before hsh hval hw' (hX _ _ _ (by rfl) hx)).mono λ e W' ⟨v,he,hp⟩=>?_
  subst he
  exact ChangeSpec.post_blind hp
def ceZ:List (List Int):=[[0,0],[0,1],[0,1],[1,0],[1,1],[2,0],[0,1],[0,1],[0,1],[2,1],[2,1],[2,1],[2,1],[1,1],[2,1],[2,1],[2,1],[1,1],[0,0],[1,0],[2,0],[0,0]]
def ceffrow:Nat -> Nat -> Value:=λ i j=>.int .i64 ((ceZ.getD i []).getD j 0)
theorem ceff_den:(Blk.rows 2 22 ceffrow 302 (0,0)).den=(Blk.lit cefV 302 (0,0)).den:=by kernel_rfl
def efZ:List (List Int):=effT.map λ z=>[z.1,z.2.1,z.2.2]
theorem glob_row (g:Nat) (t:TypeId) (hg:g < Tryz.prog.globals.size) (h0:(((begin Tryz.prog (λ _ _=>0) default).world.heap[g]?).bind Obj.row?).map (·.2)=some t) {W:World} (hs:W.ShapedOpen Tryz.prog):∃ cs,W.heap[g]?=some (.cells cs t (0,0)):=by
  cases h:((begin Tryz.prog (λ _ _=>0) default).world.heap[g]?).bind Obj.row? with
  | none=>rw [h] at h0;cases h0
  | some x =>
    obtain ⟨z,t'⟩:=x
    rw [h] at h0
    simp only [Option.map_some,Option.some.injEq] at h0
    subst h0
    obtain ⟨cs,h1,_⟩:=hs.1 g z t' hg h
    exact ⟨cs,h1⟩
def recOk (P:Program) (e:TypeId) (m:Nat):Bool :=
  match P.underlying e with
  | some (.struct fs)=>decide (fs.toList.length=m) && (List.range m).all λ j =>
    match fs.toList[j]? with
    | some f=>(match P.underlying f.type with | some (.int .i64)=>true | _=>false) && decide (P.cellsOf f.type=1) && decide (f.offset=j)
    | none=>false
  | _=>false
theorem recOk_use {P:Program} {e:TypeId} {m:Nat} (h:recOk P e m=true):∃ fs:Array Field,P.underlying e=some (.struct fs) /\ fs.toList.length=m /\
    ∀ (j:Nat) f,fs.toList[j]?=some f -> P.underlying f.type=some (.int .i64) /\ P.cellsOf f.type=1 /\ f.offset=j:=by
  unfold recOk at h
  split at h
  case h_2=>cases h
  rename_i fs hfs
  rw [Bool.and_eq_true] at h
  have hm:fs.toList.length=m:=of_decide_eq_true h.1
  refine ⟨fs,hfs,hm,λ j f hj=>?_⟩
  have hjm:j < m:=by rw [<- hm];exact (List.getElem?_eq_some_iff.1 hj).1
  have h2:=List.all_eq_true.1 h.2 j (List.mem_range.2 hjm)
  rw [hj] at h2
  simp only [Bool.and_eq_true,decide_eq_true_eq] at h2
  refine ⟨?_,h2.1.2,h2.2⟩
  have h3:=h2.1.1
  split at h3
  · assumption
  · cases h3
theorem tab_blk {P:Program} {W:World} {name:String} {g n m:Nat} {t e:TypeId} {zs:List (List Int)} {rest:List (String × DataW Unit)} {ps:List MemPlace} {row:Nat -> Nat -> Value} {cs0:Array Value}
    (hb:W.heap[g]?=some (.cells cs0 t (0,0)))
    (hg:P.globalNamed name=some g) (hty:(P.globals[g]?).map (·.type)=some t) (ht:P.underlying t=some (.array n e)) (hE:recOk P e m=true) (hce:P.cellsOf e=m) (hct:P.cellsOf t=n * m) (hm:0 < m) (hz:∀ z ∈ zs,z.length=m)
    (hrow:∀ i j,i < n -> j < m -> row i j=.int .i64 ((zs.getD i []).getD j 0))
    (h:DataW.LaidVars P W ((name,.agg (zs.map λ z=>.agg (z.map λ x=>.lit (.int .i64 x)))) :: rest) ps):W.heap[g]?=some (Blk.rows m n row t (0,0)).den /\ ∃ q,DataW.LaidVars P W rest q:=by
  obtain ⟨fs,he,hfl,hf⟩:=recOk_use hE
  obtain ⟨g',t',cs,fuel,p,q,hg',ht',hvar,hd,hr,_⟩:=h
  obtain rfl:=Option.some.inj (hg.symm.trans hg')
  obtain rfl:=Option.some.inj (hty.symm.trans ht')
  have hv:W.var? P name=some cs0:=by
    unfold World.var?
    rw [hg]
    simp only [Option.bind_some,hb]
  obtain rfl:=Option.some.inj (hv.symm.trans hvar)
  obtain ⟨h1,h2,h3⟩:=cells_of_tabS ht he hce hct hm hfl hf hz hd
  refine ⟨?_,q,hr⟩
  rw [hb]
  show some (Obj.cells cs0 t (0,0))=some (Obj.cells ⟨rowsOf m row n⟩ t (0,0))
  congr 2
  obtain ⟨l⟩:=cs0
  congr 1
  symm
  exact rowsOf_ext (w:=m) h1 λ i j hi hj=>by rw [hrow i j hi hj];exact h3 i j hi hj
theorem glob_of {W:World} (hs:W.ShapedOpen Tryz.prog) (hL:laidMetH Tryz.prog [("arenanet/compile.effects",Rows.laid_arenanet_compile_effects),("arenanet/vm.effects",Rows.laid_arenanet_vm_effects)] W):W.heap[0]?=some (Blk.lit cefV 302 (0,0)).den /\ W.heap[1]?=some (Blk.rows 3 22 effrow 323 (0,0)).den:=by
  rw [MakeChecks.laidMetH_plain _ _ _ (by kernel_rfl)] at hL
  obtain ⟨ps,hv,_,_⟩:=hL
  obtain ⟨cs0,hb0⟩:=glob_row 0 302 (of_decide_eq_true (by kernel_rfl)) (by kernel_rfl) hs
  obtain ⟨cs1,hb1⟩:=glob_row 1 323 (of_decide_eq_true (by kernel_rfl)) (by kernel_rfl) hs
  have hv0:DataW.LaidVars Tryz.prog W (("arenanet/compile.effects",.agg (ceZ.map λ z=>.agg (z.map λ x=>.lit (.int .i64 x)))) :: [("arenanet/vm.effects",.agg (efZ.map λ z=>.agg (z.map λ x=>.lit (.int .i64 x))))]) ps:=hv
  obtain ⟨h0,q,hq⟩:=tab_blk (n:=22) (m:=2) (e:=301) (row:=ceffrow) hb0 (by kernel_rfl) (by kernel_rfl) (by kernel_rfl) (by kernel_rfl) (by kernel_rfl) (by kernel_rfl) (by decide) (by decide) (λ i j hi hj=>rfl) hv0
  obtain ⟨h1,_⟩:=tab_blk (n:=22) (m:=3) (e:=322) (row:=effrow) hb1 (by kernel_rfl) (by kernel_rfl) (by kernel_rfl) (by kernel_rfl) (by kernel_rfl) (by kernel_rfl) (by decide) (by decide) (λ i j hi hj=>by
    have key:∀ i:Fin 22,∀ j:Fin 3,(if j.1=0 then (effT.getD i.1 (0,0,0)).1 else if j.1=1 then (effT.getD i.1 (0,0,0)).2.1 else (effT.getD i.1 (0,0,0)).2.2)=(efZ.getD i.1 []).getD j.1 0:=by decide
    have:=key ⟨i,hi⟩ ⟨j,hj⟩
    rcases j with _ | _ | _ | j
    · exact congrArg (Value.int .i64) this
    · exact congrArg (Value.int .i64) this
    · exact congrArg (Value.int .i64) this
    · omega) hq
  exact ⟨h0.trans (congrArg some ceff_den),h1⟩
def worldE (W:World):HL:=List.ofFn (λ k:Fin W.heap.size=>(k.1,if k.1=0 then Blk.lit cefV 302 (0,0) else if k.1=1 then Blk.rows 3 22 effrow 323 (0,0) else blkOf W.heap[k.1]))
theorem worldE_den {W:World} (h0:W.heap[0]?=some (Blk.lit cefV 302 (0,0)).den) (h1:W.heap[1]?=some (Blk.rows 3 22 effrow 323 (0,0)).den):denL (worldF W)=denL (worldE W):=by
  unfold denL worldF worldE
  rw [List.map_ofFn,List.map_ofFn]
  congr 1
  funext k
  show (k.1,(blkOf W.heap[k.1]).den)=(k.1,Blk.den (if k.1=0 then _ else if k.1=1 then _ else _))
  rw [blkOf_den]
  congr 1
  by_cases e0:k.1=0
  · rw [if_pos e0]
    have h2:W.heap[k.1]?=some (Blk.lit cefV 302 (0,0)).den:=by rw [show W.heap[k.1]?=W.heap[0]? by rw [e0]];exact h0
    rw [Array.getElem?_eq_getElem k.2] at h2
    exact Option.some.inj h2
  · rw [if_neg e0]
    by_cases e1:k.1=1
    · rw [if_pos e1]
      have h2:W.heap[k.1]?=some (Blk.rows 3 22 effrow 323 (0,0)).den:=by rw [show W.heap[k.1]?=W.heap[1]? by rw [e1]];exact h1
      rw [Array.getElem?_eq_getElem k.2] at h2
      exact Option.some.inj h2
    · rw [if_neg e1,blkOf_den]
theorem worldE_c {W:World} (h0:W.heap[0]?=some (Blk.lit cefV 302 (0,0)).den):TabIn (worldE W) :=
  List.mem_ofFn.2 ⟨⟨0,(Array.getElem?_eq_some_iff.1 h0).1⟩,rfl⟩
theorem worldE_e {W:World} (h1:W.heap[1]?=some (Blk.rows 3 22 effrow 323 (0,0)).den):EffIn (worldE W) :=
  List.mem_ofFn.2 ⟨⟨1,(Array.getElem?_eq_some_iff.1 h1).1⟩,rfl⟩
noncomputable def laidWorld (os:Os):World:=World.laidAll Tryz.prog os Rows.gameMovesRow.laid
theorem moves_lifted (os:Os) (started:os.Started) (H:Type) (enc:TypeId × Value -> H) :
    ReturnsInHanded {} Tryz.checked os 3 .any (λ w args=>(Rows.gameMovesSpec.pre enc Tryz.prog Tryz.f3 [] false w args /\ laidMetH Tryz.prog Rows.gameMovesRow.laid w) /\ sizedMet enc Tryz.prog Tryz.f3 (OpenSpec.ofChange Rows.gameMovesSpec) false w args)
      (Rows.gameMovesSpec.post enc Tryz.prog Tryz.f3 false true false false):=by
  refine returnsInHanded_shaped (C:=Tryz.checked) (X:=λ w _=>laidMetH Tryz.prog Rows.gameMovesRow.laid w) (λ _ _ _ hh h=>h.of_heap hh) own_knob started (by kernel_rfl) Tryz.func3
    (ChangeSpec.witness_at (enc:=enc) (C:=Tryz.checked) (os:=os) (X:=λ w _=>laidMetH Tryz.prog Rows.gameMovesRow.laid w) false (laidWorld os) #[.slice none 0 0,.int .i64 0,.slice none 0 0,.int .i64 0] 8 (World.laidAll_os _ _ _) (by kernel_rfl) (by kernel_rfl) (by kernel_rfl) (by kernel_rfl) (by kernel_rfl) (laidMetH_of_parts (laidMet_laidAll _ (by kernel_rfl) (by kernel_rfl)) (by kernel_rfl))) ?_
  intro W base args ds gs before hsh hval0 hW hL
  have hval:∀ (j:Nat) t v,Tryz.f3.params[j]?=some t -> args[j]?=some v -> Value.okWide Tryz.prog W .any base t v:=hval0
  have hW':=hW
  obtain ⟨p,q,hA0,hV,rfl,hfz,hnd⟩:=hW
  have hA:DataW.TrodAll enc Tryz.prog W 0 (λ _=>true) true Tryz.f3.params.toList args.toList ds p:=hA0
  have hAA:=hA
  rw [Tryz.params3] at hA hval
  obtain ⟨v0,vs0,d0,ds0,p0,q0,hargs,rfl,rfl,h0r,r0⟩:=trodAll_cons hA
  obtain ⟨v1,vs1,d1,ds1,p1,q1,rfl,rfl,rfl,h1r,r1⟩:=trodAll_cons r0
  obtain ⟨v2,vs2,d2,ds2,p2,q2,rfl,rfl,rfl,h2r,r2⟩:=trodAll_cons r1
  obtain ⟨v3,vs3,d3,ds3,p3,q3,rfl,rfl,rfl,h3r,r3⟩:=trodAll_cons r2
  obtain ⟨rfl,rfl,rfl⟩:=trodAll_nil r3
  obtain rfl:args=#[v0,v1,v2,v3]:=by cases args;simp_all
  obtain ⟨rfl,rfl⟩:=trodVars_none hV
  obtain ⟨A0,n0,c0,x0,rfl,b0,h0,k0⟩:=open_arg (hval 0 22 v0 rfl rfl) h0r
  obtain ⟨a1,rfl,rfl,rfl,w1z⟩:=open_int Tryz.underlying3 (hval 1 3 v1 rfl rfl) h1r
  have w1:=int_range w1z
  obtain ⟨A2,n2,c2,x2,rfl,b2,h2,k2⟩:=open_arg (hval 2 22 v2 rfl rfl) h2r
  obtain ⟨a3,rfl,rfl,rfl,w3z⟩:=open_int Tryz.underlying3 (hval 3 3 v3 rfl rfl) h3r
  have w3:=int_range w3z
  clear hA0 hval0
  simp only [List.append_nil,List.nil_append] at hW' hAA
  obtain ⟨g0,g1⟩:=glob_of hsh hL
  have eW:=worldE_den g0 g1
  refine (Sp.callsW W ((moves_any A0 A2 n0 c0 n2 c2 x0 x2 a1 a3 (worldE W) (worldE_c g0) (worldE_e g1) (h0.d eW) b0 (h2.d eW) b2 w1 w3).den eW.symm)).mono λ e W' ⟨he,hb⟩=>?_
  subst he
  exact ⟨_,rfl,post_law laid_out (by rw [Tryz.params3];intro t ht;simp at ht;first | (subst ht;exact ⟨by kernel_rfl,of_decide_eq_true (by kernel_rfl)⟩) | (rcases ht with rfl | rfl <;> exact ⟨by kernel_rfl,of_decide_eq_true (by kernel_rfl)⟩) | (rcases ht with rfl | rfl | rfl <;> exact ⟨by kernel_rfl,of_decide_eq_true (by kernel_rfl)⟩) | (rcases ht with rfl | rfl | rfl | rfl <;> exact ⟨by kernel_rfl,of_decide_eq_true (by kernel_rfl)⟩)) hW' rfl hAA (λ _ _ _=>trodAll_cons_mk (shut_bool Tryz.underlying4 _) trodAll_mk0) rfl (λ _=>rfl) hb⟩
theorem moves_inPlace:(Rows.gameMovesRow.inPlace == Tryz.prog.inPlace 3)=true:=by kernel_rfl
theorem moves_varsNamed:(Rows.gameMovesRow.named == Tryz.prog.varsNamed 3)=true:=by kernel_rfl
theorem moves_unfollowed:(Rows.gameMovesRow.unfollowed == Tryz.prog.unfollowed 3)=true:=by kernel_rfl
theorem moves_recurses:(Rows.gameMovesRow.recurses == Tryz.prog.recurses 3)=true:=by kernel_rfl
theorem moves_laidOut:laidOutB Tryz.prog=true:=by kernel_rfl
theorem moves_mapsRowed:mapsRowed Tryz.prog=true:=by kernel_rfl
theorem moves_plainKeys:(Rows.gameMovesRow.plainKeys == Tryz.prog.plainKeys)=true:=by kernel_rfl
theorem moves_enter:Tryz.prog.mayEnter=true:=by kernel_rfl
theorem moves_heard:Tryz.prog.stopsHeard=true:=by kernel_rfl
theorem moves_closed:joinedFacts Tryz.prog 3 Tryz.f3 Rows.gameMovesSpec Rows.gameMovesRow=true:=by
  unfold joinedFacts
  simp only [moves_inPlace,moves_varsNamed,moves_unfollowed,moves_recurses,moves_laidOut,moves_mapsRowed,moves_plainKeys,moves_enter,moves_heard,Bool.and_true,Bool.true_and]
  kernel_rfl
theorem moves_over:Rows.GameMovesSaid :=
  OpenClaim.holds_of_wide 3 Tryz.f3 rfl rfl rfl rfl rfl rfl rfl ⟨rfl,rfl,rfl,rfl,rfl⟩ rfl rfl rfl rfl rfl (by kernel_rfl) Tryz.func3 moves_closed
    (of_decide_eq_true (by kernel_rfl)) (by unfold Func.isWrapper;first | (rw [if_pos (by decide +kernel)];kernel_rfl) | (rw [if_neg (by decide +kernel)];exact ⟨rfl,rfl⟩))
    (λ os started H enc _=>moves_lifted os started H enc)
theorem moves_goes:false=Rows.gameMovesRow.goesBy Tryz.prog:=by kernel_rfl
theorem moves_fname:Tryz.prog.funcNamed "arenanet/arenanetlaw19.GameMoves"=some 3:=by kernel_rfl
theorem prog_looks:false=Tryz.prog.looks []:=by kernel_rfl
end Go.Proofs.YtghjbimijeinfaaGreatDoor
