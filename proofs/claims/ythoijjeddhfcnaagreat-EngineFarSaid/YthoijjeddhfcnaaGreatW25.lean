import Derived.Test.YthoijjeddhfcnaaGreatW24
import Derived.Test.YthoijjeddhfcnaaGreatW21
import Derived.Test.YthoijjeddhfcnaaGreatW23
import Derived.RecoverIn
set_option maxHeartbeats 4000000
set_option maxRecDepth 100000
set_option linter.unusedSimpArgs false
set_option linter.unusedVariables false
namespace Go.Proofs.YthoijjeddhfcnaaGreat
open Go.RowKit
def motC (S:Setup) (cs:List Int) (i:Nat):Mot:=⟨cs.getD (bodyAt S i).toNat 0,cs.getD ((bodyAt S i).toNat+1) 0,cs.getD ((bodyAt S i).toNat+2) 0,cs.getD ((bodyAt S i).toNat+3) 0,(S.body i).mot.inv⟩
theorem lmot_any (S:Setup) (q n cap:Nat) (cs:List Int) (i:Nat) (F:HL) (hS:SetIn F S) (hq:(q,.rows 1 n (irow cs) 3 (0,0)) ∈ F) (hi:i < S.nb) (hn:(sizeOf S).toNat <= n) (hc:n <= cap) (hn2:n <= 100000000):Sp Tryz.prog 39 #[(Setup.v S),vS q 0 n cap,vI (i:Int)] [] F (λ u H'=>u=.agg #[vI ((motC S cs i).px),vI ((motC S cs i).py),vI ((motC S cs i).vx),vI ((motC S cs i).vy),vI ((motC S cs i).inv)] /\ H'=[]):=by
 have hp:=hS.pl
 have hnb:=hS.nb
 have hr:=hS.room
 have hz:=sizeOf_bd hS.toSetN
 have hbi:=bodyAt_in hS.toSetN (i:=i) (by omega)
 refine Sp.run Tryz.func39 rfl (mc hS.blk (mc hq mn)) (A:=[]) (Ts:=[]) rfl λ w0=>?_
 refine RN.go 10 (ow 1 16) λ n1=>RN.cp (lbody_any S (i:Int) _ hS.toSetN) ?_
 have hb2:=bodyAt_bd hS.toSetN (i:Int)
 refine RN.go 9 [] λ _=>RN.em (bodyAt S (i:Int) < 0) 14 (λ h3=>?_) λ h3=>?_
 ·(exfalso;omega)
 ·refine RN.goP 8 [.nw] [I64 ((n:Int) - (bodyAt S (i:Int)))] λ _=>RN.em ((n:Int) - (bodyAt S (i:Int)) < 8) 20 (λ h4=>?_) λ h4=>?_
  ·(exfalso;omega)
  ·refine RN.goP 12 [.sl ((bodyAt S (i:Int)).toNat) n false] [bodyAt S (i:Int)=(((bodyAt S (i:Int)).toNat:Nat):Int) /\ n=n /\ (bodyAt S (i:Int)).toNat <= n /\ n <= cap /\ cap ≠ (bodyAt S (i:Int)).toNat] λ _=>RN.draw [22] []<|RD.goP [] [0,3,7,10,14,16,1,4,8,11,15,2,5,9,12,17,6,13,18,19,20,21] [.ix 0,.ix 1,.ix 2,.ix 3,.own 1,.rorow 1 (((bodyAt S (i:Int)).toNat)+0) 0,.rorow 1 (((bodyAt S (i:Int)).toNat)+1) 0,.rorow 1 (((bodyAt S (i:Int)).toNat)+2) 0,.rorow 1 (((bodyAt S (i:Int)).toNat)+3) 0,.ix i,.rorow 0 (S.bo+i) 6] [((S.bo * 9+i * 9)+6)=(S.bo+i) * 9+6 /\ (S.bo+i) < S.bR,(i:Int)=((i:Nat):Int) /\ i < S.nb,((0+((bodyAt S (i:Int)).toNat) * 1)+3 * 1)=(((bodyAt S (i:Int)).toNat)+3) * 1+0 /\ (((bodyAt S (i:Int)).toNat)+3) < n,((0+((bodyAt S (i:Int)).toNat) * 1)+2 * 1)=(((bodyAt S (i:Int)).toNat)+2) * 1+0 /\ (((bodyAt S (i:Int)).toNat)+2) < n,((0+((bodyAt S (i:Int)).toNat) * 1)+1 * 1)=(((bodyAt S (i:Int)).toNat)+1) * 1+0 /\ (((bodyAt S (i:Int)).toNat)+1) < n,((0+((bodyAt S (i:Int)).toNat) * 1)+0 * 1)=(((bodyAt S (i:Int)).toNat)+0) * 1+0 /\ (((bodyAt S (i:Int)).toNat)+0) < n,3=((3:Nat):Int) /\ 3 < (n - (bodyAt S (i:Int)).toNat),2=((2:Nat):Int) /\ 2 < (n - (bodyAt S (i:Int)).toNat),1=((1:Nat):Int) /\ 1 < (n - (bodyAt S (i:Int)).toNat),0=((0:Nat):Int) /\ 0 < (n - (bodyAt S (i:Int)).toNat)]<|RD.one 22 (RDO.ev [] (ow 0 5) λ _=>?_)
   refine RD.fin<|RN.go 1 [] λ _=>?_
   exact RN.ret (ow 0 5) [] [] ⟨rfl,rfl⟩
theorem motC_eq {S:Setup} (hP:0 <= S.players) {M:MemS} (hl:(M.cs.length:Int)=sizeOf S) {i:Nat} (hi:i < S.nb):motC S M.cs i=motM S M i:=by
 have e:=bat (S:=S) (k:=(i:Int)) (by omega) (by omega)
 have hz:sizeOf S=48+4 * S.players+8 * S.nb:=rfl
 have g:∀ c:Nat,c < 8 -> M.get (bodyAt S i+(c:Int))=M.cs.getD ((bodyAt S i).toNat+c) 0:=λ c hc=>by
  unfold MemS.get
  rw [if_pos (by omega)]
  congr 1
  omega
 unfold motC motM
 rw [Int.toNat_natCast]
 congr 1
 ·exact ((g 0 (by decide)).symm:_)
 ·exact ((g 1 (by decide)).symm:_)
 ·exact ((g 2 (by decide)).symm:_)
 ·exact ((g 3 (by decide)).symm:_)
theorem zrow_mot (n:Nat):∀ i' k',i' < n -> k' < 5 -> zrow [vI 0,vI 0,vI 0,vI 0,vI 0] i' k'=rowE motE (List.replicate n dMot) i' k':=λ i k h1 h2=>by
 have e:(List.replicate n dMot).getD i dMot=dMot:=by simp [h1]
 unfold rowE
 show _=motE.cell ((List.replicate n dMot).getD i dMot) k
 rw [e]
 obtain rfl | rfl | rfl | rfl | rfl:k=0 \/ k=1 \/ k=2 \/ k=3 \/ k=4:=by omega
 all_goals rfl
theorem zrow_bx (n:Nat):∀ i' k',i' < n -> k' < 4 -> zrow [vI 0,vI 0,vI 0,vI 0] i' k'=rowE bxE (List.replicate n dBx) i' k':=λ i k h1 h2=>by
 have e:(List.replicate n dBx).getD i dBx=dBx:=by simp [h1]
 unfold rowE
 show _=bxE.cell ((List.replicate n dBx).getD i dBx) k
 rw [e]
 obtain rfl | rfl | rfl | rfl:k=0 \/ k=1 \/ k=2 \/ k=3:=by omega
 all_goals rfl
theorem zrow_int (n:Nat):∀ i' k',i' < n -> k' < 1 -> zrow [vI 0] i' k'=irow (List.replicate n 0) i' k':=λ i k h1 h2=>by
 have e:(List.replicate n (0:Int)).getD i 0=0:=by simp [h1]
 obtain rfl:k=0:=by omega
 show vI 0=vI _
 rw [e]
theorem lmotM_any (S:Setup) (q:Nat) (M:MemS) (i n:Nat) (F:HL) (hS:SetIn F S) (hq:(q,.rows 1 M.cs.length (irow M.cs) 3 (0,0)) ∈ F) (hn:n=S.nb) (hi:i < n) (hl:(M.cs.length:Int)=sizeOf S) (hc:M.cs.length <= 1000000):Sp Tryz.prog 39 #[Setup.v S,vS q 0 M.cs.length M.cs.length,vI (i:Int)] [] F (λ u H'=>u=.agg #[vI ((motM S M i).px),vI ((motM S M i).py),vI ((motM S M i).vx),vI ((motM S M i).vy),vI ((motM S M i).inv)] /\ H'=[]):=by
 subst hn
 have h:=lmot_any S q M.cs.length M.cs.length M.cs i F hS hq hi (by omega) (Nat.le_refl _) (by omega)
 rwa [motC_eq hS.pl.1 hl hi] at h
theorem eload_any (S:Setup) (mb k:Nat) (M:MemS) (T F:HL) (hS:SetIn F S) (hM:MemH mb M k T) (hT:∀ x ∈ T,x ∈ F) (hl:(M.cs.length:Int)=sizeOf S) (hc:M.cs.length <= 1000000):Sp Tryz.prog 26 #[vP mb 0,(Setup.v S)] [] F (λ u H'=>∃ x:(Nat × Nat × Nat × Nat) × List Mot × List Int × List Bx,H'=ap [(x.1.1,.lit (Setup.l S++[vS x.1.2.1 0 S.nb S.nb,vS x.1.2.2.1 0 S.nb S.nb,vS x.1.2.2.2 0 S.nb S.nb,vI 0,vI 0,vI 0]) 92 (0,0)),(x.1.2.1,.rows 5 S.nb (rowE motE x.2.1) 37 (0,0)),(x.1.2.2.1,.rows 1 S.nb (irow x.2.2.1) 3 (0,0)),(x.1.2.2.2,.rows 4 S.nb (rowE bxE x.2.2.2) 25 (0,0))] [] /\ (WR S M x.2.1 x.2.2.1 x.2.2.2 /\ u=vP x.1.1 0)):=by
 have hroom:=hS.room
 have hnbS:=hS.nb
 have hplS:=hS.pl
 refine Sp.run Tryz.func26 rfl (mc hS.blk mn) (A:=[]) (Ts:=[]) rfl λ w0=>?_
 refine RN.go 15 [.own 0] λ n1=>RN.draw [] []<|RD.go [] [0,1,3,5] (ow 0 16)<|RD.haveK (σ:=Nat × Nat × Nat × Nat) (λ ⟨n2,n3,n4,n5⟩=>⟨[(0,vP mb 0),(3,vP (n1+0) 0),(5,vI (S.nb:Int)),(6,vP (n5+0) 0)],[((n5+0),.lit (Setup.l S++[vS (n2+0) 0 S.nb S.nb,vS (n3+0) 0 S.nb S.nb,vS (n4+0) 0 S.nb S.nb,vI 0,vI 0,vI 0]) 92 (0,0)),((n4+0),.rows 4 S.nb (zrow [vI 0,vI 0,vI 0,vI 0]) 25 (0,0)),((n3+0),.rows 1 S.nb (zrow [vI 0]) 3 (0,0)),((n2+0),.rows 5 S.nb (zrow [vI 0,vI 0,vI 0,vI 0,vI 0]) 37 (0,0)),((n1+0),.lit (Setup.l S) 32 (0,0))],[],True,0⟩) ?_ ?_
 ·rintro ⟨n2,n3,n4,n5⟩
  refine RN.go 2 [] λ _=>RN.de 3 (.rows 5 S.nb (zrow [vI 0,vI 0,vI 0,vI 0,vI 0]) 37 (0,0)) (.rows 5 S.nb (rowE motE (List.replicate S.nb dMot)) 37 (0,0)) (rows_den (zrow_mot S.nb))<|RN.de 2 (.rows 1 S.nb (zrow [vI 0]) 3 (0,0)) (.rows 1 S.nb (irow (List.replicate S.nb 0)) 3 (0,0)) (rows_den (zrow_int S.nb))<|RN.de 1 (.rows 4 S.nb (zrow [vI 0,vI 0,vI 0,vI 0]) 25 (0,0)) (.rows 4 S.nb (rowE bxE (List.replicate S.nb dBx)) 25 (0,0)) (rows_den (zrow_bx S.nb))<|RN.go 2 [] λ _=>RN.ct (Hp:=[]) (Tp:=[]) [] [] (cells_ap mb M k T _ hM (λ x hx=>ro_ap (hT x hx))) ?_
  rintro _ q6 rfl
  refine RN.go 11 [] λ _=>RN.loop (σ:=Nat × List Mot × List Int × List Bx) (λ ⟨j_,b_,h_,x_⟩=>⟨[(0,vP mb 0),(3,vP (n1+0) 0),(6,vP (n5+0) 0),(7,vS q6 0 M.cs.length M.cs.length),(23,vI (S.nb:Int)),(24,vI (j_:Int))],[(q6,.rows 1 M.cs.length (irow M.cs) 3 (0,0)),((n5+0),.lit (Setup.l S++[vS (n2+0) 0 S.nb S.nb,vS (n3+0) 0 S.nb S.nb,vS (n4+0) 0 S.nb S.nb,vI 0,vI 0,vI 0]) 92 (0,0)),((n4+0),.rows 4 S.nb (rowE bxE x_) 25 (0,0)),((n3+0),.rows 1 S.nb (irow h_) 3 (0,0)),((n2+0),.rows 5 S.nb (rowE motE b_) 37 (0,0)),((n1+0),.lit (Setup.l S) 32 (0,0))],[],j_ <= S.nb /\ WRt S M b_ h_ x_ j_,S.nb - j_⟩) (0,List.replicate S.nb dMot,List.replicate S.nb 0,List.replicate S.nb dBx) [0,1,2,3,4,5] [] (⟨Nat.zero_le _,WRt.start S M⟩) ?_
  rintro ⟨j_,b_,h_,x_⟩ ⟨hj_,hw_⟩ mt8
  refine RN.go 6 [] λ _=>RN.em ((j_:Int) < (S.nb:Int)) 25 (λ h9=>?_) λ h9=>?_
  ·refine RN.go 12 [] λ _=>RN.draw [12] []<|RD.go [] [0,4,5,6,7,1,2,3] (ow 5 16++[.own 1])<|RD.cp [] 8 (λ X_=>(lbody_any S (j_:Int) _ hS.toSetN)) ?_
   have hb10:=bodyAt_bd hS.toSetN (j_:Int)
   refine RD.goP [] [9] [.nw] [I64 ((bodyAt S (j_:Int))+6)]<|RD.cp [] 10 (λ X_=>(get_any ((bodyAt S (j_:Int))+6) hM (λ x hx=>ro_apX (hT x hx))))<|RD.goP [] [11] [.ix j_] [(j_:Int)=((j_:Nat):Int) /\ j_ < S.nb]<|RD.one 12 (RDO.evP [] [.row 3 j_ 0] [(0+j_ * 1)=j_ * 1+0 /\ j_ < S.nb] λ _=>?_)
   refine RD.fin<|RN.go 1 [] λ _=>RN.bv 3 (congrArg (λ v_=>(.rows 1 S.nb v_ 3 (0,0):Blk)) (show (updG (irow h_) j_ 0 (vI (M.get ((bodyAt S (j_:Int))+6))))=(irow (h_.set j_ (M.get (bodyAt S j_+6)))) from (irow_set (by have h_:=hw_.lh;omega) _)))<|RN.go 6 (ow 5 16) λ _=>RN.cp (lmotM_any S q6 M j_ S.nb _ hS.up (in_ap 0) rfl (by omega) hl hc)<|RN.ct [4,2] [] (update_ap S (n5+0) (n2+0) (n3+0) (n4+0) S.nb j_ 0 0 0 b_ x_ (motM S M j_) _ (in_ap 1) hS.up rfl (by omega) hw_.lb hw_.lx) ?_
   rintro _ ⟨⟩ _
   refine RN.goP 7 [.nw] [I64 ((j_:Int)+1)] λ _=>RN.sv 24 (congrArg (λ v_=>(vI v_:Value)) (show (j_:Int)+1=((j_+1:Nat):Int) by omega)) ?_
   refine mt8 (j_+1,(b_.set j_ (motM S M j_)),h_.set j_ (M.get (bodyAt S j_+6)),(x_.set j_ (bounds (S.body j_).sh ⟨(motM S M j_).px,(motM S M j_).py⟩))) [2,3,1,4,0,5] [] ?_
   try dsimp only
   exact ⟨⟨by omega,hw_.step (by omega)⟩,by omega⟩
  ·refine RN.go 12 [] λ _=>RN.ret [] [1,4,3,2] [] (v:=vP (n5+0) 0) (H':=(ap [((n5+0),.lit (Setup.l S++[vS (n2+0) 0 S.nb S.nb,vS (n3+0) 0 S.nb S.nb,vS (n4+0) 0 S.nb S.nb,vI 0,vI 0,vI 0]) 92 (0,0)),((n2+0),.rows 5 S.nb (rowE motE b_) 37 (0,0)),((n3+0),.rows 1 S.nb (irow h_) 3 (0,0)),((n4+0),.rows 4 S.nb (rowE bxE x_) 25 (0,0))] [])) ?_
   obtain rfl:j_=S.nb:=by omega
   exact ⟨(((n5+0),(n2+0),(n3+0),(n4+0)),b_,h_,x_),rfl,hw_.done hl,rfl⟩
 ·intro key11
  refine RD.three 2 4 6 ?_ ?_ ?_
  ·refine RDO.evP [] [.mk S.nb S.nb] [(S.nb:Int)=((S.nb:Nat):Int) /\ (S.nb:Int)=((S.nb:Nat):Int) /\ S.nb <= S.nb /\ 40 * S.nb <= 140737488355328 /\ 5=5 /\ S.nb <= 9223372036854775807] λ n12=>RD.two 4 6 ?_ ?_
   ·refine RDO.evP [] [.mk S.nb S.nb] [(S.nb:Int)=((S.nb:Nat):Int) /\ (S.nb:Int)=((S.nb:Nat):Int) /\ S.nb <= S.nb /\ 8 * S.nb <= 140737488355328 /\ 1=1 /\ S.nb <= 9223372036854775807] λ n13=>RD.one 6 (RDO.evP [] [.mk S.nb S.nb] [(S.nb:Int)=((S.nb:Nat):Int) /\ (S.nb:Int)=((S.nb:Nat):Int) /\ S.nb <= S.nb /\ 32 * S.nb <= 140737488355328 /\ 4=4 /\ S.nb <= 9223372036854775807] λ n14=>?_)
    refine RD.one 7 (RDO.ev [] [] λ _=>?_)
    refine RD.one 8 (RDO.ev [] [] λ n15=>?_)
    refine RD.one 9 (RDO.ev [] [] λ _=>?_)
    exact key11 ⟨n12,n13,n14,n15⟩ [0,1,2,3,4] []
   ·refine RDO.evP [] [.mk S.nb S.nb] [(S.nb:Int)=((S.nb:Nat):Int) /\ (S.nb:Int)=((S.nb:Nat):Int) /\ S.nb <= S.nb /\ 32 * S.nb <= 140737488355328 /\ 4=4 /\ S.nb <= 9223372036854775807] λ n16=>RD.one 4 (RDO.evP [] [.mk S.nb S.nb] [(S.nb:Int)=((S.nb:Nat):Int) /\ (S.nb:Int)=((S.nb:Nat):Int) /\ S.nb <= S.nb /\ 8 * S.nb <= 140737488355328 /\ 1=1 /\ S.nb <= 9223372036854775807] λ n17=>?_)
    refine RD.one 7 (RDO.ev [] [] λ _=>?_)
    refine RD.one 8 (RDO.ev [] [] λ n18=>?_)
    refine RD.one 9 (RDO.ev [] [] λ _=>?_)
    exact key11 ⟨n12,n17,n16,n18⟩ [0,2,1,3,4] []
  ·refine RDO.evP [] [.mk S.nb S.nb] [(S.nb:Int)=((S.nb:Nat):Int) /\ (S.nb:Int)=((S.nb:Nat):Int) /\ S.nb <= S.nb /\ 8 * S.nb <= 140737488355328 /\ 1=1 /\ S.nb <= 9223372036854775807] λ n19=>RD.two 2 6 ?_ ?_
   ·refine RDO.evP [] [.mk S.nb S.nb] [(S.nb:Int)=((S.nb:Nat):Int) /\ (S.nb:Int)=((S.nb:Nat):Int) /\ S.nb <= S.nb /\ 40 * S.nb <= 140737488355328 /\ 5=5 /\ S.nb <= 9223372036854775807] λ n20=>RD.one 6 (RDO.evP [] [.mk S.nb S.nb] [(S.nb:Int)=((S.nb:Nat):Int) /\ (S.nb:Int)=((S.nb:Nat):Int) /\ S.nb <= S.nb /\ 32 * S.nb <= 140737488355328 /\ 4=4 /\ S.nb <= 9223372036854775807] λ n21=>?_)
    refine RD.one 7 (RDO.ev [] [] λ _=>?_)
    refine RD.one 8 (RDO.ev [] [] λ n22=>?_)
    refine RD.one 9 (RDO.ev [] [] λ _=>?_)
    exact key11 ⟨n20,n19,n21,n22⟩ [0,1,3,2,4] []
   ·refine RDO.evP [] [.mk S.nb S.nb] [(S.nb:Int)=((S.nb:Nat):Int) /\ (S.nb:Int)=((S.nb:Nat):Int) /\ S.nb <= S.nb /\ 32 * S.nb <= 140737488355328 /\ 4=4 /\ S.nb <= 9223372036854775807] λ n23=>RD.one 2 (RDO.evP [] [.mk S.nb S.nb] [(S.nb:Int)=((S.nb:Nat):Int) /\ (S.nb:Int)=((S.nb:Nat):Int) /\ S.nb <= S.nb /\ 40 * S.nb <= 140737488355328 /\ 5=5 /\ S.nb <= 9223372036854775807] λ n24=>?_)
    refine RD.one 7 (RDO.ev [] [] λ _=>?_)
    refine RD.one 8 (RDO.ev [] [] λ n25=>?_)
    refine RD.one 9 (RDO.ev [] [] λ _=>?_)
    exact key11 ⟨n24,n19,n23,n25⟩ [0,2,3,1,4] []
  ·refine RDO.evP [] [.mk S.nb S.nb] [(S.nb:Int)=((S.nb:Nat):Int) /\ (S.nb:Int)=((S.nb:Nat):Int) /\ S.nb <= S.nb /\ 32 * S.nb <= 140737488355328 /\ 4=4 /\ S.nb <= 9223372036854775807] λ n26=>RD.two 2 4 ?_ ?_
   ·refine RDO.evP [] [.mk S.nb S.nb] [(S.nb:Int)=((S.nb:Nat):Int) /\ (S.nb:Int)=((S.nb:Nat):Int) /\ S.nb <= S.nb /\ 40 * S.nb <= 140737488355328 /\ 5=5 /\ S.nb <= 9223372036854775807] λ n27=>RD.one 4 (RDO.evP [] [.mk S.nb S.nb] [(S.nb:Int)=((S.nb:Nat):Int) /\ (S.nb:Int)=((S.nb:Nat):Int) /\ S.nb <= S.nb /\ 8 * S.nb <= 140737488355328 /\ 1=1 /\ S.nb <= 9223372036854775807] λ n28=>?_)
    refine RD.one 7 (RDO.ev [] [] λ _=>?_)
    refine RD.one 8 (RDO.ev [] [] λ n29=>?_)
    refine RD.one 9 (RDO.ev [] [] λ _=>?_)
    exact key11 ⟨n27,n28,n26,n29⟩ [0,3,1,2,4] []
   ·refine RDO.evP [] [.mk S.nb S.nb] [(S.nb:Int)=((S.nb:Nat):Int) /\ (S.nb:Int)=((S.nb:Nat):Int) /\ S.nb <= S.nb /\ 8 * S.nb <= 140737488355328 /\ 1=1 /\ S.nb <= 9223372036854775807] λ n30=>RD.one 2 (RDO.evP [] [.mk S.nb S.nb] [(S.nb:Int)=((S.nb:Nat):Int) /\ (S.nb:Int)=((S.nb:Nat):Int) /\ S.nb <= S.nb /\ 40 * S.nb <= 140737488355328 /\ 5=5 /\ S.nb <= 9223372036854775807] λ n31=>?_)
    refine RD.one 7 (RDO.ev [] [] λ _=>?_)
    refine RD.one 8 (RDO.ev [] [] λ n32=>?_)
    refine RD.one 9 (RDO.ev [] [] λ _=>?_)
    exact key11 ⟨n31,n30,n26,n32⟩ [0,3,2,1,4] []
theorem cs_run (mb q k:Nat) (M:MemS) (c v:Int) (T F:HL) (hq:(q,.lit [vP mb 0] 41 (0,0)) ∈ F) (hM:MemH mb M (k+1) T):Sp Tryz.prog 45 #[vI c,vI v,vP q 0] (ap [] [T]) F (λ _ H'=>∃ x,H'=ap [] [x] /\ MemH mb (csM M c v) k x):=by
 refine Sp.run Tryz.func45 rfl (mc hq mn) (A:=[]) (Ts:=[T]) rfl λ w0=>?_
 refine RN.go 4 [.ro 0] λ _=>RN.cp (get_any c hM (sub_ap 0))<|RN.go 4 [] λ _=>RN.en (M.get c=v) 9 (λ h1=>?_) λ h1=>?_
 ·refine RN.go 2 [] λ _=>RN.ret [] [] [0] (v:=.tuple #[]) (H':=(ap [] [T])) ?_
  exact ⟨T,rfl,by unfold csM;rw [if_pos h1];exact hM.weak (by omega)⟩
 ·refine RN.go 5 [.ro 0] λ _=>RN.ct [] [0] (set_any c v hM) ?_
  rintro _ T2 hM3
  refine RN.go 1 [] λ _=>RN.ret [] [] [0] (v:=.tuple #[]) (H':=(ap [] [T2])) ?_
  exact ⟨T2,rfl,by unfold csM;rw [if_neg h1];exact hM3⟩
theorem store_run (S:Setup) (wp bb hb xb n mb k:Nat) (sp sc ss:Int) (M W:MemS) (bl:List Mot) (hl:List Int) (xl:List Bx) (T F:HL) (hw:(wp,.lit (Setup.l S++[vS bb 0 n n,vS hb 0 n n,vS xb 0 n n,vI sp,vI sc,vI ss]) 92 (0,0)) ∈ F) (hb_:(bb,.rows 5 n (rowE motE bl) 37 (0,0)) ∈ F) (hh_:(hb,.rows 1 n (irow hl) 3 (0,0)) ∈ F) (hS:SetIn F S) (hV:SetV S) (hn:n=S.nb) (hlM:(M.cs.length:Int)=sizeOf S) (hK:KpB S M W) (eW:W=colG S M) (hW:WR S W bl hl xl) (hM:MemH mb M (k+4+5 * n) T):Sp Tryz.prog 29 #[vP wp 0,vP mb 0] (ap [] [T]) F (λ _ H'=>∃ x:MemS × HL,H'=ap [] [x.2] /\ (ColR S M x.1 /\ MemH mb x.1 k x.2)):=by
 have hnbS:=hS.nb
 have hplS:=hS.pl
 have hzS:=sizeOf_bd hS.toSetN
 refine Sp.run Tryz.func29 rfl (mc hw (mc hb_ (mc hh_ (mc hS.blk mn)))) (A:=[]) (Ts:=[T]) rfl λ w0=>?_
 refine RN.go 23 [.ro 0] λ n1=>RN.loop (σ:=Nat × MemS × HL) (λ ⟨j_,N_,T_⟩=>⟨[(0,vP wp 0),(4,.func (.func 45) #[] #[vP (n1+0) 0]),(12,vS bb 0 n n),(13,vI (n:Int)),(14,vI (j_:Int))],[((n1+0),.lit [vP mb 0] 41 (0,0))],[T_],j_ <= n /\ Sto S M W N_ j_ /\ MemH mb N_ (k+4+5 * (n - j_)) T_,n - j_⟩) (0,M,T) [0] [0] (⟨Nat.zero_le _,Sto.start hlM,hM⟩) ?_
 rintro ⟨j_,N_,T_⟩ ⟨hj_,hsto_,hM_⟩ mt3
 refine RN.go 6 [] λ _=>RN.em ((j_:Int) < (n:Int)) 15 (λ h4=>?_) λ h4=>?_
 ·refine RN.go 6 [] λ _=>?_
  replace hM_:MemH mb N_ (k+4+5 * (n - (j_+1))+5) T_:=hM_.weak (by omega)
  refine RN.goP 16 ([.ix j_,.rorow 1 j_ 0,.rorow 1 j_ 1,.rorow 1 j_ 2,.rorow 1 j_ 3,.rorow 1 j_ 4]++ow 0 5++[.ro 0,.ro 0,.ro 0,.ro 0,.ro 0,.ro 0,.ro 0,.ro 0,.ro 0,.ro 0,.ro 0,.ro 0,.ro 0,.ro 0,.ro 0,.ro 0]) [((0+j_ * 5)+4)=j_ * 5+4 /\ j_ < n,((0+j_ * 5)+3)=j_ * 5+3 /\ j_ < n,((0+j_ * 5)+2)=j_ * 5+2 /\ j_ < n,((0+j_ * 5)+1)=j_ * 5+1 /\ j_ < n,(0+j_ * 5)=j_ * 5+0 /\ j_ < n,(j_:Int)=((j_:Nat):Int) /\ j_ < n] λ n5=>RN.cp (lbody_any S (j_:Int) _ hS.toSetN) ?_
  have hb6:=bodyAt_bd hS.toSetN (j_:Int)
  refine RN.goP 11 [.nw,.own 0] [I64 ((bodyAt S (j_:Int))+0)] λ _=>RN.ct [] [0] (cs_run mb (n1+0) ((k+4+5 * (n - (j_+1)))+4) N_ ((bodyAt S (j_:Int))+0) ((bl.getD j_ dMot).px) T_ _ (in_ap 1) hM_) ?_
  rintro _ T7 hM8
  refine RN.goP 10 [.nw,.own 0] [I64 ((bodyAt S (j_:Int))+1)] λ _=>RN.ct [] [0] (cs_run mb (n1+0) ((k+4+5 * (n - (j_+1)))+3) (csM N_ ((bodyAt S (j_:Int))+0) ((bl.getD j_ dMot).px)) ((bodyAt S (j_:Int))+1) ((bl.getD j_ dMot).py) T7 _ (in_ap 1) hM8) ?_
  rintro _ T9 hM10
  refine RN.goP 10 [.nw,.own 0] [I64 ((bodyAt S (j_:Int))+2)] λ _=>RN.ct [] [0] (cs_run mb (n1+0) ((k+4+5 * (n - (j_+1)))+2) (csM (csM N_ ((bodyAt S (j_:Int))+0) ((bl.getD j_ dMot).px)) ((bodyAt S (j_:Int))+1) ((bl.getD j_ dMot).py)) ((bodyAt S (j_:Int))+2) ((bl.getD j_ dMot).vx) T9 _ (in_ap 1) hM10) ?_
  rintro _ T11 hM12
  refine RN.goP 10 [.nw,.own 0] [I64 ((bodyAt S (j_:Int))+3)] λ _=>RN.ct [] [0] (cs_run mb (n1+0) ((k+4+5 * (n - (j_+1)))+1) (csM (csM (csM N_ ((bodyAt S (j_:Int))+0) ((bl.getD j_ dMot).px)) ((bodyAt S (j_:Int))+1) ((bl.getD j_ dMot).py)) ((bodyAt S (j_:Int))+2) ((bl.getD j_ dMot).vx)) ((bodyAt S (j_:Int))+3) ((bl.getD j_ dMot).vy) T11 _ (in_ap 1) hM12) ?_
  rintro _ T13 hM14
  refine RN.goP 13 [.nw,.ro 0,.ix j_,.rorow 2 j_ 0] [(0+j_ * 1)=j_ * 1+0 /\ j_ < n,(j_:Int)=((j_:Nat):Int) /\ j_ < n,I64 ((bodyAt S (j_:Int))+6)] λ _=>RN.ct [] [0] (cs_run mb (n1+0) ((k+4+5 * (n - (j_+1)))+0) (csM (csM (csM (csM N_ ((bodyAt S (j_:Int))+0) ((bl.getD j_ dMot).px)) ((bodyAt S (j_:Int))+1) ((bl.getD j_ dMot).py)) ((bodyAt S (j_:Int))+2) ((bl.getD j_ dMot).vx)) ((bodyAt S (j_:Int))+3) ((bl.getD j_ dMot).vy)) ((bodyAt S (j_:Int))+6) (hl.getD j_ 0) T13 _ (in_ap 1) hM14) ?_
  rintro _ T15 hM16
  refine RN.goP 7 [.nw] [I64 ((j_:Int)+1)] λ _=>RN.sv 14 (congrArg (λ v_=>(vI v_:Value)) (show (j_:Int)+1=((j_+1:Nat):Int) by omega)) ?_
  refine mt3 (j_+1,stBd S j_ (bl.getD j_ dMot) (hl.getD j_ 0) N_,T15) [1] [0] ?_
  try dsimp only
  exact ⟨⟨by omega,hsto_.step hV (by omega) hK hW,hM16⟩,by omega⟩
 ·refine RN.go 7 [] λ _=>?_
  replace hM_:MemH mb N_ (k+4) T_:=hM_.weak (by omega)
  refine RN.go 2 [] λ _=>RN.ct [] [0] (cs_run mb (n1+0) (k+3) N_ 1 6 T_ _ (in_ap 0) hM_) ?_
  rintro _ T17 hM18
  refine RN.go 5 [] λ _=>RN.ct [] [0] (cs_run mb (n1+0) (k+2) (csM N_ 1 6) 2 0 T17 _ (in_ap 0) hM18) ?_
  rintro _ T19 hM20
  refine RN.go 5 [] λ _=>RN.ct [] [0] (cs_run mb (n1+0) (k+1) (csM (csM N_ 1 6) 2 0) 3 0 T19 _ (in_ap 0) hM20) ?_
  rintro _ T21 hM22
  refine RN.go 4 [] λ _=>RN.ct [] [0] (cs_run mb (n1+0) (k+0) (csM (csM (csM N_ 1 6) 2 0) 3 0) 5 0 T21 _ (in_ap 0) hM22) ?_
  rintro _ T23 hM24
  refine RN.go 1 [] λ _=>RN.ret [] [] [0] (v:=.tuple #[]) (H':=(ap [] [T23])) ?_
  obtain rfl:j_=n:=by omega
  exact ⟨(_,T23),rfl,Sto.fin hV hlM (hn ▸ hsto_) hK eW,hM24⟩
open Go.Shelf
theorem etick1_sp (c0 c1 c2 c3 c4:Value) (F:HL):SpD Tryz.prog 16 #[c0,c1,c2,c3,c4] [] F (λ _ H'=>H'=[]):=by
  intro w hR
  refine callsDIn_of_wpSIn (F:=Wr none) (n:=0) Tryz.func16 rfl trivial λ c₀ cs hu=>?_
  have hrc:recoverD (c₀ :: cs)=none:=by simp [recoverD,hu]
  refine wpSIn_seq (wpSIn_region ?_)
  show wpOpsSIn _ _ _ _ _ [0,1] _ _ _
  simp only [wpOpsSIn,List.getElem?_toArray,List.getElem?_cons_zero,List.getElem?_cons_succ]
  simp [wpOpsSIn,go_sem,hrc,Tryz.ntmps16,Exit.thenS]
  refine wpSIn_cond (t:=false) (by simp [Act.eval,Array.replicate]) ?_
  refine wpSIn_of_wpIn rfl ?_
  refine wpIn_skip ?_
  simp [bodyPostS,results,Tryz.results16,hu]
  exact ⟨.returning,by cases c₀;simp at hu;subst hu;rfl,hu ▸ rfl,hR,Below.refl _ _⟩
theorem etick1_ap (c0 c1 c2 c3 c4:Value) (F:HL):SpD Tryz.prog 16 #[c0,c1,c2,c3,c4] (ap [] []) F (λ _ H'=>∃ _:Unit,H'=ap [] [] /\ True):=by
  exact (etick1_sp c0 c1 c2 c3 c4 F).mono λ u H' h=>⟨(),h,trivial⟩
theorem rnd_lt2 {S:Setup} (h:S.nb < 2):∀ (k:Nat) (M:MemS),rndG S k M=M
  | 0,_=>rfl
  | k+1,M=>by
    have e:outG S 0 S.nb M=M:=by
      obtain h0 | h0:S.nb=0 \/ S.nb=1:=by omega
      · rw [h0];rfl
      · rw [h0];rfl
    rw [rndG,e]
    exact rnd_lt2 h k M
theorem col_of {S:Setup} (M:MemS):colG S M=mvsG S 0 S.nb (rndG S S.rounds.toNat M):=by
  unfold colG
  split
  · next h=>rw [rnd_lt2 h]
  · rfl
def mostV (S:Setup):Int:=S.players+(S.players+1+S.nb) * (S.fuel+3)+2 * S.nb+4
theorem mostV_bd {S:Setup} (hV:SetV S):0 < mostV S /\ mostV S <= 600:=by
  have hn:=hV.nb
  have hP:=hV.pl
  have hf:=hV.fu
  unfold mostV
  have h1:(S.players+1+S.nb) * (S.fuel+3) <= (S.players+1+S.nb) * 63:=Int.mul_le_mul_of_nonneg_left (by omega) (by omega)
  have h2:0 <= (S.players+1+S.nb) * (S.fuel+3):=Int.mul_nonneg (by omega) (by omega)
  omega
theorem mostV_any (S:Setup) (F:HL) (hV:SetV S):Sp Tryz.prog 18 #[(Setup.v S)] [] F (λ u H'=>u=vI (mostV S) /\ H'=[]):=by
 have hP:=hV.pl
 have hN:=hV.nb
 have hf:=hV.fu
 have hm:=mostV_bd hV
 unfold mostV at hm
 have h1:(S.players+1+S.nb) * (S.fuel+3) <= (S.players+1+S.nb) * 63:=Int.mul_le_mul_of_nonneg_left (by omega) (by omega)
 have h2:0 <= (S.players+1+S.nb) * (S.fuel+3):=Int.mul_nonneg (by omega) (by omega)
 refine Sp.run Tryz.func18 rfl mn (A:=[]) (Ts:=[]) rfl λ w0=>?_
 refine RN.goP 35 [.own 0,.own 0,.own 0,.nw,.nw,.own 0,.nw,.nw,.nw,.nw,.nw,.nw] [I64 (((S.players+(((S.players+1)+(S.nb:Int)) * (S.fuel+3)))+(2 * (S.nb:Int)))+4),I64 ((S.players+(((S.players+1)+(S.nb:Int)) * (S.fuel+3)))+(2 * (S.nb:Int))),I64 (2 * (S.nb:Int)),I64 (S.players+(((S.players+1)+(S.nb:Int)) * (S.fuel+3))),I64 (((S.players+1)+(S.nb:Int)) * (S.fuel+3)),I64 (S.fuel+3),I64 ((S.players+1)+(S.nb:Int)),I64 (S.players+1)] λ n1=>?_
 exact RN.ret [] [] [] ⟨rfl,rfl⟩
theorem echeck_any (S:Setup) (mb k:Nat) (M:MemS) (A:Option Addr) (n cap:Nat) (xs:List Inp) (T F:HL) (hM:MemH mb M k T) (hT:∀ x ∈ T,x ∈ F) (hl:RowL inpE 56 F A n xs) (hn:n <= 1000000):Sp Tryz.prog 14 #[vP mb 0,(Setup.v S),.slice A n cap] [] F (λ u H'=>u=vI (wrongE S.players n xs (M.get 0)) /\ H'=[]):=by
 refine Sp.run Tryz.func14 rfl mn (A:=[]) (Ts:=[]) rfl λ w0=>?_
 refine RN.go 16 [.own 0] λ n1=>RN.en ((n:Int)=S.players) 13 (λ h2=>?_) λ h2=>?_
 ·refine RN.go 12 [] λ _=>RN.loop (σ:=Nat) (λ k_=>⟨[(0,vP mb 0),(14,.slice A n cap),(15,vI (n:Int)),(16,vI (k_:Int))],[((n1+0),.lit (Setup.l S) 32 (0,0))],[],k_ <= n /\ ∀ t,t < k_ -> okIn (xs.getD t dI),n - k_⟩) 0 [0] [] (⟨Nat.zero_le _,λ t ht=>absurd ht (Nat.not_lt_zero _)⟩) ?_
  rintro k_ ⟨hkl,hok⟩ mt4
  refine RN.go 6 [] λ _=>RN.em ((k_:Int) < (n:Int)) 17 (λ h5=>?_) λ h5=>?_
  ·refine RN.go 7 [] λ _=>?_
   obtain ⟨qx6,ox6,Nx6,fx6,fzx6,hAx6,hqx6,hox6,hgx6⟩:=hl.at (k:=k_) (by omega)
   refine RN.sv 14 (congrArg (λ v_=>(.slice v_ n cap:Value)) hAx6)<|RN.ro (λ _=>(mc hqx6 mn))<|RN.goP 2 [.ix k_,.rorow 0 (ox6+k_) 0,.rorow 0 (ox6+k_) 1,.rorow 0 (ox6+k_) 2] [((ox6 * 3+k_ * 3)+2)=(ox6+k_) * 3+2 /\ (ox6+k_) < Nx6,((ox6 * 3+k_ * 3)+1)=(ox6+k_) * 3+1 /\ (ox6+k_) < Nx6,(ox6 * 3+k_ * 3)=(ox6+k_) * 3+0 /\ (ox6+k_) < Nx6,(k_:Int)=((k_:Nat):Int) /\ k_ < n] λ _=>RN.sv 19 (congrArg (λ v_=>(.agg #[vI v_.dx,vI v_.dy,vI v_.act]:Value)) hgx6)<|RN.go 10 [.own 0,.own 0,.own 0,.own 0] λ n7=>RN.em ((xs.getD k_ dI).dx < (-1)) 23 (λ h8=>?_) λ h8=>?_
   ·refine RN.go 32 [] λ _=>RN.ret [] [] [] (v:=vI 1) (H':=[]) ?_
    exact ⟨by rw [wrongE,if_pos (by omega),if_neg (λ h_=>by have h2_:=h_ k_ (by omega);unfold okIn at h2_;omega)],rfl⟩
   ·refine RN.go 5 [.own 0] λ _=>RN.em ((xs.getD k_ dI).dx > 1) 28 (λ h9=>?_) λ h9=>?_
    ·refine RN.go 27 [] λ _=>RN.ret [] [] [] (v:=vI 1) (H':=[]) ?_
     exact ⟨by rw [wrongE,if_pos (by omega),if_neg (λ h_=>by have h2_:=h_ k_ (by omega);unfold okIn at h2_;omega)],rfl⟩
    ·refine RN.go 5 [.own 0] λ _=>RN.em ((xs.getD k_ dI).dy < (-1)) 33 (λ h10=>?_) λ h10=>?_
     ·refine RN.go 22 [] λ _=>RN.ret [] [] [] (v:=vI 1) (H':=[]) ?_
      exact ⟨by rw [wrongE,if_pos (by omega),if_neg (λ h_=>by have h2_:=h_ k_ (by omega);unfold okIn at h2_;omega)],rfl⟩
     ·refine RN.go 5 [.own 0] λ _=>RN.em ((xs.getD k_ dI).dy > 1) 38 (λ h11=>?_) λ h11=>?_
      ·refine RN.go 17 [] λ _=>RN.ret [] [] [] (v:=vI 1) (H':=[]) ?_
       exact ⟨by rw [wrongE,if_pos (by omega),if_neg (λ h_=>by have h2_:=h_ k_ (by omega);unfold okIn at h2_;omega)],rfl⟩
      ·refine RN.go 5 [.own 0] λ _=>RN.em ((xs.getD k_ dI).act < 0) 43 (λ h12=>?_) λ h12=>?_
       ·refine RN.go 12 [] λ _=>RN.ret [] [] [] (v:=vI 1) (H':=[]) ?_
        exact ⟨by rw [wrongE,if_pos (by omega),if_neg (λ h_=>by have h2_:=h_ k_ (by omega);unfold okIn at h2_;omega)],rfl⟩
       ·refine RN.go 6 [.own 0] λ _=>RN.em ((xs.getD k_ dI).act > 3) 47 (λ h13=>?_) λ h13=>?_
        ·refine RN.go 6 [] λ _=>RN.ret [] [] [] (v:=vI 1) (H':=[]) ?_
         exact ⟨by rw [wrongE,if_pos (by omega),if_neg (λ h_=>by have h2_:=h_ k_ (by omega);unfold okIn at h2_;omega)],rfl⟩
        ·refine RN.goP 8 [.nw] [I64 ((k_:Int)+1)] λ _=>RN.sv 14 (congrArg (λ v_=>(.slice v_ n cap:Value)) hAx6.symm) ?_
         refine mt4 (k_+1) [1] [] ?_
         try dsimp only
         refine ⟨⟨by omega,λ t ht=>?_⟩,by omega⟩
         rcases Nat.lt_or_ge t k_ with h_ | h_
         ·exact hok t h_
         ·obtain rfl:t=k_:=by omega
          exact ⟨⟨h8,h9⟩,⟨h10,h11⟩,h12,h13⟩
  ·refine RN.go 10 [] λ _=>RN.cp (get_any 0 hM (λ x hx=>ro_ap (hT x hx)))<|RN.go 3 [] λ _=>RN.em (M.get 0 >= 6000) 51 (λ h14=>?_) λ h14=>?_
   ·refine RN.go 6 [] λ _=>RN.ret [] [] [] (v:=vI 2) (H':=[]) ?_
    exact ⟨by rw [wrongE,if_pos (by omega),if_pos (λ t ht=>hok t (by omega)),if_pos (by omega)],rfl⟩
   ·refine RN.go 8 [] λ _=>RN.ret [] [] [] (v:=vI 0) (H':=[]) ?_
    exact ⟨by rw [wrongE,if_pos (by omega),if_pos (λ t ht=>hok t (by omega)),if_neg (by omega)],rfl⟩
 ·refine RN.go 6 [] λ _=>RN.ret [] [] [] (v:=vI 17) (H':=[]) ?_
  exact ⟨by rw [wrongE,if_neg (by omega)],rfl⟩
theorem echeck_b (e:Int) (S:Setup) (mb k:Nat) (M:MemS) (A:Option Addr) (n cap:Nat) (xs:List Inp) (T F:HL) (hM:MemH mb M k T) (hT:∀ x ∈ T,x ∈ F) (hl:RowL inpE 56 F A n xs) (hn:n <= 1000000) (he:wrongE S.players n xs (M.get 0)=e):Sp Tryz.prog 14 #[vP mb 0,Setup.v S,.slice A n cap] [] F (λ u H'=>u=vI e /\ H'=[]):=he ▸ echeck_any S mb k M A n cap xs T F hM hT hl hn
abbrev gmN (S:Setup) (cn:Nat) (e0 e1 e2 ver:Int) (ni:Nat) (xs:List Inp) (code:List Ins):Gm:=⟨S,none,cn,0,e0,e1,e2,ver,0,0,ni,0,0,xs,code⟩
theorem gmN_eq {S:Setup} {A:Option Addr} {cn c ib io N ni ic:Nat} {e0 e1 e2 ver:Int} {code:List Ins} {full xs:List Inp} (hx:∀ k,k < ni -> full.getD (io+k) dI=xs.getD k dI):GEq ⟨S,A,cn,c,e0,e1,e2,ver,ib,io,ni,ic,N,full,code⟩ (gmN S cn e0 e1 e2 ver ni xs code) :=
 ⟨rfl,λ k hk=>(hx k hk).trans (by rw [Nat.zero_add])⟩
theorem trans_nmJ {g g0:Gm} (e:GEq g g0) (mb:Nat) (M:MemS) (k:Nat) (T F:HL) (hM:MemH mb M (k+20) T) (hg:GmC F g) (hJ:runs M -> EffIn F) (h0:phOk M) (ver:Int) (hver:g.version=ver):Sp Tryz.prog 154 #[.iface 41 (vP mb 0),.agg #[vI g.S.players,vS g.S.bb (g.S.bo * 9) g.S.nb g.S.bc,vI g.S.box.x0,vI g.S.box.y0,vI g.S.box.x1,vI g.S.box.y1,.slice g.S.rA g.S.rn g.S.rc,.slice g.S.dA g.S.dn g.S.dc,vI g.S.fog,vI g.S.g.x,vI g.S.g.y,vI g.S.push,vI g.S.drag,vI g.S.rest,vI g.S.rounds,vI g.S.fuel],.agg #[.slice g.cA g.cn g.cc,vI g.e0,vI g.e1,vI g.e2],vI ver,vS g.ib (g.io * 3) g.ni g.ic] (ap [] [T]) F (λ u H'=>∃ x,H'=ap [] [x] /\ (MemH mb (trM g0 M) k x /\ u=.tuple #[.bool (trE g0 M),.agg #[vI ((trV g0 M).e.t),vI ((trV g0 M).e.i),vI ((trV g0 M).e.k),vI ((trV g0 M).e.v)],.bool ((trV g0 M).em)])):=by
 have h:=trans_anyJ g mb M k T F hM hg hJ h0 ver hver
 rwa [trM,trE_eq e,trV_eq e] at h
theorem estep_run (S:Setup) (mb ib io N ni ic c k cn:Nat) (A:Option Addr) (e0 e1 e2 ver:Int) (code:List Ins) (full xs:List Inp) (M:MemS) (T F:HL) (hx:∀ k,k < ni -> full.getD (io+k) dI=xs.getD k dI) (hM:MemH mb M (k+20) T) (hg:GmC F (⟨S,A,cn,c,e0,e1,e2,ver,ib,io,ni,ic,N,full,code⟩:Gm)) (hJ:runs M -> EffIn F) (h0:phOk M):Sp Tryz.prog 153 #[.agg #[vP mb 0,vI S.players,vS S.bb (S.bo * 9) S.nb S.bc,vI S.box.x0,vI S.box.y0,vI S.box.x1,vI S.box.y1,.slice S.rA S.rn S.rc,.slice S.dA S.dn S.dc,vI S.fog,vI S.g.x,vI S.g.y,vI S.push,vI S.drag,vI S.rest,vI S.rounds,vI S.fuel,.slice A cn c,vI e0,vI e1,vI e2,vI ver,vS ib (io * 3) ni ic]] (ap [] [T]) F (λ u H'=>∃ x,H'=ap [] [x] /\ (MemH mb (trM (gmN S cn e0 e1 e2 ver ni xs code) M) k x /\ u=.tuple #[.bool (trE (gmN S cn e0 e1 e2 ver ni xs code) M),.agg #[vI ((trV (gmN S cn e0 e1 e2 ver ni xs code) M).e.t),vI ((trV (gmN S cn e0 e1 e2 ver ni xs code) M).e.i),vI ((trV (gmN S cn e0 e1 e2 ver ni xs code) M).e.k),vI ((trV (gmN S cn e0 e1 e2 ver ni xs code) M).e.v)],.bool ((trV (gmN S cn e0 e1 e2 ver ni xs code) M).em)])):=by
 refine Sp.run Tryz.func153 rfl mn (A:=[]) (Ts:=[T]) rfl λ w0=>?_
 refine RN.go 21 (ow 1 23) λ n1=>RN.ct [] [0] (trans_nmJ (g:=(⟨S,A,cn,c,e0,e1,e2,ver,ib,io,ni,ic,N,full,code⟩:Gm)) (gmN_eq hx) mb M k T _ hM (hg.up (X:=_)) (λ h_=>ro_ap (hJ h_)) h0 ver rfl) ?_
 rintro _ T2 ⟨hM3,rfl⟩
 refine RN.go 8 [.own 0,.own 0,.own 0,.own 0] λ _=>RN.ret [.own 0,.own 0,.own 0,.own 0] [] [0] (v:=.tuple #[.bool (trE (gmN S cn e0 e1 e2 ver ni xs code) M),.agg #[vI ((trV (gmN S cn e0 e1 e2 ver ni xs code) M).e.t),vI ((trV (gmN S cn e0 e1 e2 ver ni xs code) M).e.i),vI ((trV (gmN S cn e0 e1 e2 ver ni xs code) M).e.k),vI ((trV (gmN S cn e0 e1 e2 ver ni xs code) M).e.v)],.bool ((trV (gmN S cn e0 e1 e2 ver ni xs code) M).em)]) (H':=(ap [] [T2])) ?_
 exact ⟨T2,rfl,hM3,rfl⟩
theorem ecol_run (S:Setup) (mb k:Nat) (M:MemS) (T F:HL) (hS:SetIn F S) (hV:SetV S) (hB:BoxV S) (hm:∀ k,k < S.nb -> smS (S.body k).sh) (hA:BiA S M) (hlM:(M.cs.length:Int)=sizeOf S) (hM:MemH mb M (k+4+5 * S.nb) T):Sp Tryz.prog 19 #[vP mb 0,(Setup.v S)] (ap [] [T]) F (λ u H'=>∃ x:(Int × Int × Int) × MemS × HL,H'=ap [] [x.2.2] /\ (ColR S M x.2.1 /\ ColS S M x.1.1 x.1.2.1 x.1.2.2 /\ MemH mb x.2.1 k x.2.2 /\ u=.agg #[vI x.1.1,vI x.1.2.1,vI x.1.2.2])):=by
 have hcM:M.cs.length <= 1000000:=by have h1_:=hV.pl;have h2_:=hV.nb;have hz_:sizeOf S=48+4 * S.players+8 * S.nb:=rfl;omega
 refine Sp.run Tryz.func19 rfl mn (A:=[]) (Ts:=[T]) rfl λ w0=>?_
 refine RN.go 10 (ow 1 16) λ n1=>RN.ct (Hp:=[]) (Tp:=[]) [] [] (eload_any S mb (k+4+5 * S.nb) M T _ hS.up hM (sub_ap 0) hlM hcM) ?_
 rintro _ ⟨⟨wp_,bb_,hb_,xb_⟩,b0_,h0_,x0_⟩ ⟨hW0_,rfl⟩
 dsimp only at hW0_
 refine RN.go 6 [] λ _=>RN.ct [0,1,2,3] [] (contacts_run S wp_ bb_ hb_ xb_ S.nb 0 0 0 M b0_ h0_ x0_ _ hS.up hV rfl hW0_ (by omega) (by omega)) ?_
 rintro _ ⟨p1_,c1_,b1_,h1_,x1_⟩ ⟨hW1_,hp1_,hc1_,hz1_⟩
 dsimp only at hW1_ hp1_ hc1_ hz1_
 refine RN.go 5 [] λ _=>RN.ct [0,1,3] [] (moves_run S wp_ bb_ hb_ xb_ S.nb p1_ c1_ 0 (rndG S S.rounds.toNat M) b1_ h1_ x1_ _ hS.up hV hB hm rfl hW1_ (bi_rnd _ hA) (by omega)) ?_
 rintro _ ⟨s2_,b2_,x2_⟩ ⟨hW2_,hs2_⟩
 dsimp only at hW2_ hs2_
 refine RN.go 6 [] λ _=>RN.ct [] [0] (store_run S wp_ bb_ hb_ xb_ S.nb mb k p1_ c1_ s2_ M (colG S M) b2_ h1_ x2_ T _ (in_ap 0) (in_ap 1) (in_ap 3) hS.up hV rfl hlM (kc_col S M) rfl (by rw [col_of];exact hW2_) hM) ?_
 rintro _ ⟨N_,T2_⟩ ⟨hcol_,hM2_⟩
 dsimp only at hcol_ hM2_
 refine RN.go 11 [.own 0,.own 0,.own 0,.own 4,.own 4,.own 4] λ _=>RN.ret [.own 4,.own 4,.own 4] [] [0] (v:=.agg #[vI p1_,vI c1_,vI s2_]) (H':=(ap [] [T2_])) ?_
 exact ⟨((p1_,c1_,s2_),N_,T2_),rfl,hcol_,⟨hz1_,by have h_:=hs2_.2.2;rw [Int.zero_add] at h_;exact h_⟩,hM2_,rfl⟩
end Go.Proofs.YthoijjeddhfcnaaGreat
