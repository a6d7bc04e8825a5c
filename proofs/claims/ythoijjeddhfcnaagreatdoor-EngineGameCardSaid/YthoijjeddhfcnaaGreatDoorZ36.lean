import Derived.Test.YthoijjeddhfcnaaGreatDoorZ35
set_option maxHeartbeats 4000000
set_option maxRecDepth 100000
set_option linter.unusedSimpArgs false
set_option linter.unusedVariables false
namespace Go.Proofs.YthoijjeddhfcnaaGreatDoor
open Go.RowKit
theorem AU{S:Setup}{i j:Nat}{W:MemS}{bl:List Mot}{hl:List Int}{xl:List Bx}(hW:WR S W bl hl xl)(hi:i<S.nb)(hj:j<S.nb)(h:¬ xh (xl.getD i mw) (xl.getD j mw)):fR S i j W=W:=by
 rw[hW.x i hi,hW.x j hj] at h
 refine GW ?_
 show (aG _ _ _ _).2=false
 unfold aG
 rw[if_neg h]
theorem JI{S:Setup}{i j:Nat}{W:MemS}{bl:List Mot}{hl:List Int}{xl:List Bx}(hW:WR S W bl hl xl)(hi:i<S.nb)(hj:j<S.nb)(h:¬ (aG (S.body i).sh ⟨(bl.getD i aj).px,(bl.getD i aj).py⟩ (S.body j).sh ⟨(bl.getD j aj).px,(bl.getD j aj).py⟩).2=true):fR S i j W=W:=by
 rw[hW.b i hi,hW.b j hj] at h
 exact GW (Bool.eq_false_iff.2 h)
theorem Ml{S:Setup}{i j:Nat}{W:MemS}{bl:List Mot}{hl:List Int}{xl:List Bx}(hW:WR S W bl hl xl)(hi:i<S.nb)(hj:j<S.nb):(mA S i j W ↔ ¬ xh (iy (xl.getD i mw) (aI (S.body i).sh (ay ⟨(bl.getD i aj).px,(bl.getD i aj).py⟩ ⟨(bl.getD i aj).vx,(bl.getD i aj).vy⟩))) (xl.getD j mw)) /\ iw S i j W=fw (S.body i).sh ⟨(bl.getD i aj).px,(bl.getD i aj).py⟩ ⟨(bl.getD i aj).vx,(bl.getD i aj).vy⟩ (S.body j).sh ⟨(bl.getD j aj).px,(bl.getD j aj).py⟩ ⟨0,0⟩:=by
 rw[hW.x i hi,hW.x j hj,hW.b i hi,hW.b j hj]
 exact⟨Iff.rfl,rfl⟩
theorem G1{S:Setup}{i j n:Nat}(hj:j<n)(M:MemS):qA S i j (n-j) M=qA S i ((j+1:Nat):Int) (n-(j+1)) (fR S i j M):=by
 rw[show n-j=(n-(j+1))+1 by omega];rfl
theorem Mm{S:Setup}{i n:Nat}(hi:i<n)(M:MemS):mt S i (n-i) M=mt S ((i+1:Nat):Int) (n-(i+1)) (qA S i ((i+1:Nat):Int) (n-(i+1)) M):=by
 rw[show n-i=(n-(i+1))+1 by omega];rfl
theorem Mn{S:Setup}{r R:Nat}(hr:r<R)(M:MemS):iH S (R-r) M=iH S (R-(r+1)) (mt S 0 S.nb M):=by
 rw[show R-r=(R-(r+1))+1 by omega];rfl
structure WRt(S:Setup)(M:MemS)(bl:List Mot)(hl:List Int)(xl:List Bx)(j:Nat):Prop where
 lb:bl.length=S.nb
 lh:hl.length=S.nb
 lx:xl.length=S.nb
 b:∀k,k<j -> bl.getD k aj=ai S M k
 h:∀k,k<j -> hl.getD k 0=M.get (ae S k+6)
 x:∀k,k<j -> xl.getD k mw=aI (S.body k).sh ⟨(ai S M k).px,(ai S M k).py⟩
theorem CQ(S:Setup)(M:MemS):WRt S M (List.replicate S.nb aj) (List.replicate S.nb 0) (List.replicate S.nb mw) 0 :=
 ⟨by simp,by simp,by simp,λ k h=>by omega,λ k h=>by omega,λ k h=>by omega⟩
theorem WRt.step{S:Setup}{M:MemS}{bl:List Mot}{hl:List Int}{xl:List Bx}{j:Nat}(h:WRt S M bl hl xl j)(hj:j<S.nb):WRt S M (bl.set j (ai S M j)) (hl.set j (M.get (ae S j+6))) (xl.set j (aI (S.body j).sh ⟨(ai S M j).px,(ai S M j).py⟩)) (j+1) where
 lb:=by rw[List.length_set];exact h.lb
 lh:=by rw[List.length_set];exact h.lh
 lx:=by rw[List.length_set];exact h.lx
 b:=λ k hk=>by
  rw[fi (by rw[h.lb];exact hj)]
  split
  ·next e=>rw[e]
  ·exact h.b k (by omega)
 h:=λ k hk=>by
  rw[fi (by rw[h.lh];exact hj)]
  split
  ·next e=>rw[e]
  ·exact h.h k (by omega)
 x:=λ k hk=>by
  rw[fi (by rw[h.lx];exact hj)]
  split
  ·next e=>rw[e]
  ·exact h.x k (by omega)
theorem WRt.done{S:Setup}{M:MemS}{bl:List Mot}{hl:List Int}{xl:List Bx}(h:WRt S M bl hl xl S.nb)(hl_:(M.cs.length:Int)=sizeOf S):WR S M bl hl xl:=⟨hl_,h.lb,h.lh,h.lx,h.b,h.h,h.x⟩
theorem wY(S:Setup)(wp bb hb xb n i j:Nat)(sp sc ss:Int)(W:MemS)(bl:List Mot)(hl:List Int)(xl:List Bx)(F:HL)(hS:SetIn F S)(hV:SetV S)(hn:n=S.nb)(hW:WR S W bl hl xl)(RZ:i<j)(hj:j<n)(QV:bl.length=n)(hhl:hl.length=n)(RF:xl.length=n)(YD:0 <= sc /\ sc <= 1000000):Sp Tryz.prog 96 #[vP wp 0,vI (i:Int),vI (j:Int)] [(wp,.lit (Setup.l S++[vS bb 0 n n,vS hb 0 n n,vS xb 0 n n,vI sp,vI sc,vI ss]) 156 (0,0)),(bb,.rows 5 n (aD dk bl) 68 (0,0)),(hb,.rows 1 n (bk hl) 3 (0,0)),(xb,.rows 4 n (aD fj xl) 25 (0,0))] F (λ _ H'=>∃x:Int × List Mot × List Int × List Bx,H'=ap [(wp,.lit (Setup.l S++[vS bb 0 n n,vS hb 0 n n,vS xb 0 n n,vI sp,vI x.1,vI ss]) 156 (0,0)),(bb,.rows 5 n (aD dk x.2.1) 68 (0,0)),(hb,.rows 1 n (bk x.2.2.1) 3 (0,0)),(xb,.rows 4 n (aD fj x.2.2.2) 25 (0,0))] [] /\ (WR S (fR S i j W) x.2.1 x.2.2.1 x.2.2.2 /\ ((x.1=sc /\ fR S i j W=W) \/ x.1=sc+1))):=by
 have n_:=hS.room
 have RW:=hS.nb
 refine Sp.run Tryz.func96 rfl (mc hS.blk mn) (A:=[(wp,.lit (Setup.l S++[vS bb 0 n n,vS hb 0 n n,vS xb 0 n n,vI sp,vI sc,vI ss]) 156 (0,0)),(bb,.rows 5 n (aD dk bl) 68 (0,0)),(hb,.rows 1 n (bk hl) 3 (0,0)),(xb,.rows 4 n (aD fj xl) 25 (0,0))]) (Ts:=[]) rfl λ w0=>?_
 refine aa 1 [] λ _=>RN.draw [16,17] [0,1,2,3]<|aL [0,1,2,3] [0,4,7,11,1,8,2,9,3,10,5,12,6,13] [.own 0,.ro 0,.ix i,.ix j,.row 1 i 0,.row 1 i 1,.row 1 i 2,.row 1 i 3,.row 1 i 4,.rorow 1 j 0,.rorow 1 j 1,.rorow 1 j 2,.rorow 1 j 3,.rorow 1 j 4] [((0+j*5)+4)=j*5+4 /\ j<n,((0+j*5)+3)=j*5+3 /\ j<n,((0+j*5)+2)=j*5+2 /\ j<n,((0+j*5)+1)=j*5+1 /\ j<n,(0+j*5)=j*5+0 /\ j<n,((0+i*5)+4)=i*5+4 /\ i<n,((0+i*5)+3)=i*5+3 /\ i<n,((0+i*5)+2)=i*5+2 /\ i<n,((0+i*5)+1)=i*5+1 /\ i<n,(0+i*5)=i*5+0 /\ i<n,(j:Int)=((j:Nat):Int) /\ j<n,(i:Int)=((i:Nat):Int) /\ i<n]<|fD (σ:=Nat × Nat) (λ ⟨n3,n4⟩=>⟨[(0,vP wp 0),(1,vI (i:Int)),(2,vI (j:Int)),(6,vP (n3+0) 0),(7,vP (n4+0) 0)],[((n4+0),.lit [vI ((bl.getD j aj).px),vI ((bl.getD j aj).py),vI ((bl.getD j aj).vx),vI ((bl.getD j aj).vy),vI ((bl.getD j aj).inv)] 68 (0,0)),((n3+0),.lit [vI ((bl.getD i aj).px),vI ((bl.getD i aj).py),vI ((bl.getD i aj).vx),vI ((bl.getD i aj).vy),vI ((bl.getD i aj).inv)] 68 (0,0)),(wp,.lit (Setup.l S++[vS bb 0 n n,vS hb 0 n n,vS xb 0 n n,vI sp,vI sc,vI ss]) 156 (0,0)),(bb,.rows 5 n (aD dk bl) 68 (0,0)),(hb,.rows 1 n (bk hl) 3 (0,0)),(xb,.rows 4 n (aD fj xl) 25 (0,0))],[],True,0⟩) ?_ ?_
 ·rintro⟨n3,n4⟩
  refine aa 2 [] λ _=>RN.draw [27] [0,1,2,3,4,5]<|aL [0,1,2,3,4,5] [0,5,9,11,16,20,1,10,12,21,2,13,3,14,4,15,6,17,7,18,8,19] [.own 1,.own 1,.own 0,.own 0,.own 2,.own 2,.ix i,.ix j,.rorow 0 (S.bo+i) 0,.rorow 0 (S.bo+i) 1,.rorow 0 (S.bo+j) 0,.rorow 0 (S.bo+j) 1] [((S.bo*9+j*9)+1)=(S.bo+j)*9+1 /\ (S.bo+j)<S.bR,(S.bo*9+j*9)=(S.bo+j)*9+0 /\ (S.bo+j)<S.bR,((S.bo*9+i*9)+1)=(S.bo+i)*9+1 /\ (S.bo+i)<S.bR,(S.bo*9+i*9)=(S.bo+i)*9+0 /\ (S.bo+i)<S.bR,(j:Int)=((j:Nat):Int) /\ j<S.nb,(i:Int)=((i:Nat):Int) /\ i<S.nb]<|au [0,1,2,3,4,5] 22 (λ X_=>(kH (S.bods.getD (S.bo+i) dB).sh (⟨(bl.getD i aj).px,(bl.getD i aj).py⟩:V2) (S.bods.getD (S.bo+j) dB).sh (⟨(bl.getD j aj).px,(bl.getD j aj).py⟩:V2) _ ((hS.shp i (by omega)).up.up) ((hS.shp j (by omega)).up.up)))<|af [0,1,2,3,4,5] [23,24,25] []<|RD.one 26 (RDO.ev [] [] λ n6=>?_)
  refine RD.one 27 (RDO.ev [1,2,3,4,5,6] [.own 0,.own 0,.own 0] λ _=>?_)
  refine af [1,2,3,4,5,6] [28] []<|RD.fin<|aa 8 [] λ _=>rC ((aG (S.bods.getD (S.bo+i) dB).sh (⟨(bl.getD i aj).px,(bl.getD i aj).py⟩:V2) (S.bods.getD (S.bo+j) dB).sh (⟨(bl.getD j aj).px,(bl.getD j aj).py⟩:V2)).2) 51 (λ h7=>?_) λ h7=>?_
  ·refine aq 18 [.own 3,.nw,.own 3] [bF (sc+1)] λ _=>RN.draw [12,13] [0,3,4,5,6]<|af [0,3,4,5,6] [0,1,2,3,4,5,6,7] (ow 2 5++ow 1 5++[.own 0,.own 0,.own 0,.own 3])<|au [0,3,4,5,6] 8 (λ X_=>(oq (bl.getD i aj) (bl.getD j aj) (aG (S.bods.getD (S.bo+i) dB).sh (⟨(bl.getD i aj).px,(bl.getD i aj).py⟩:V2) (S.bods.getD (S.bo+j) dB).sh (⟨(bl.getD j aj).px,(bl.getD j aj).py⟩:V2)).1 S.rest _))<|af [0,3,4,5,6] [9,10,11] []<|RD.one 12 (RDO.ev [0,3,4,5,6] (ow 2 5) λ _=>?_)
   refine RD.one 13 (RDO.ev [0,3,4,5,6] (ow 1 5) λ _=>?_)
   refine RD.fin<|aa 6 (ow 2 5) λ _=>RN.ct [4,6] [] (lD S wp bb hb xb n i sp (sc+1) ss bl xl ((aJ (bl.getD i aj) (bl.getD j aj) (aG (S.bods.getD (S.bo+i) dB).sh (⟨(bl.getD i aj).px,(bl.getD i aj).py⟩:V2) (S.bods.getD (S.bo+j) dB).sh (⟨(bl.getD j aj).px,(bl.getD j aj).py⟩:V2)).1 S.rest).1) _ (aC 3) hS.up hn (by omega) (by first|exact QV|(rw[List.length_set];exact QV)) (by first|exact RF|(rw[List.length_set];exact RF))) ?_
   rintro _ ⟨⟩ _
   refine aa 7 (ow 3 5) λ _=>RN.ct [0,1] [] (lD S wp bb hb xb n j sp (sc+1) ss (bl.set i ((aJ (bl.getD i aj) (bl.getD j aj) (aG (S.bods.getD (S.bo+i) dB).sh (⟨(bl.getD i aj).px,(bl.getD i aj).py⟩:V2) (S.bods.getD (S.bo+j) dB).sh (⟨(bl.getD j aj).px,(bl.getD j aj).py⟩:V2)).1 S.rest).1)) (xl.set i (aI (S.body i).sh ⟨((aJ (bl.getD i aj) (bl.getD j aj) (aG (S.bods.getD (S.bo+i) dB).sh (⟨(bl.getD i aj).px,(bl.getD i aj).py⟩:V2) (S.bods.getD (S.bo+j) dB).sh (⟨(bl.getD j aj).px,(bl.getD j aj).py⟩:V2)).1 S.rest).1).px,((aJ (bl.getD i aj) (bl.getD j aj) (aG (S.bods.getD (S.bo+i) dB).sh (⟨(bl.getD i aj).px,(bl.getD i aj).py⟩:V2) (S.bods.getD (S.bo+j) dB).sh (⟨(bl.getD j aj).px,(bl.getD j aj).py⟩:V2)).1 S.rest).1).py⟩)) ((aJ (bl.getD i aj) (bl.getD j aj) (aG (S.bods.getD (S.bo+i) dB).sh (⟨(bl.getD i aj).px,(bl.getD i aj).py⟩:V2) (S.bods.getD (S.bo+j) dB).sh (⟨(bl.getD j aj).px,(bl.getD j aj).py⟩:V2)).1 S.rest).2) _ (aC 3) hS.up hn (by omega) (by first|exact QV|(rw[List.length_set];exact QV)) (by first|exact RF|(rw[List.length_set];exact RF))) ?_
   rintro _ ⟨⟩ _
   refine aa 2 [] λ _=>RN.draw [15,17] [0,1,2,3,4,5]<|aL [0,1,2,3,4,5] [0,4,5,9,10,12,1,6,11,13,2,7,3,8,14] [.nw,.nw,.own 5,.own 5,.ix i] [(i:Int)=((i:Nat):Int) /\ i<n,bF ((i:Int)+1),bF ((j:Int)+1)]<|RD.one 15 (bT [0,1,2,3,4,5] [.row 6 i 0] [(0+i*1)=i*1+0 /\ i<n] λ _=>?_)
   refine aL [0,1,2,3,4,5] [16] [.ix j] [(j:Int)=((j:Nat):Int) /\ j<n]<|RD.one 17 (bT [0,1,2,3,4,5] [.row 6 j 0] [(0+j*1)=j*1+0 /\ j<n] λ _=>?_)
   refine RD.fin<|fS 6 (congrArg (λ v_=>(.rows 1 n v_ 3 (0,0):Blk)) (show (cM (cM (bk hl) i 0 (vI ((j:Int)+1))) j 0 (vI ((i:Int)+1)))=(bk ((hl.set i ((j:Int)+1)).set j ((i:Int)+1))) from (by rw[eV (by omega),eV (by rw[List.length_set];omega)])))<|RN.ret [] [5,0,6,1] [] (v:=.tuple #[]) (H':=(ap [(wp,.lit (Setup.l S++[vS bb 0 n n,vS hb 0 n n,vS xb 0 n n,vI sp,vI (sc+1),vI ss]) 156 (0,0)),(bb,.rows 5 n (aD dk ((bl.set i ((aJ (bl.getD i aj) (bl.getD j aj) (aG (S.bods.getD (S.bo+i) dB).sh (⟨(bl.getD i aj).px,(bl.getD i aj).py⟩:V2) (S.bods.getD (S.bo+j) dB).sh (⟨(bl.getD j aj).px,(bl.getD j aj).py⟩:V2)).1 S.rest).1)).set j ((aJ (bl.getD i aj) (bl.getD j aj) (aG (S.bods.getD (S.bo+i) dB).sh (⟨(bl.getD i aj).px,(bl.getD i aj).py⟩:V2) (S.bods.getD (S.bo+j) dB).sh (⟨(bl.getD j aj).px,(bl.getD j aj).py⟩:V2)).1 S.rest).2))) 68 (0,0)),(hb,.rows 1 n (bk ((hl.set i ((j:Int)+1)).set j ((i:Int)+1))) 3 (0,0)),(xb,.rows 4 n (aD fj ((xl.set i (aI (S.body i).sh ⟨((aJ (bl.getD i aj) (bl.getD j aj) (aG (S.bods.getD (S.bo+i) dB).sh (⟨(bl.getD i aj).px,(bl.getD i aj).py⟩:V2) (S.bods.getD (S.bo+j) dB).sh (⟨(bl.getD j aj).px,(bl.getD j aj).py⟩:V2)).1 S.rest).1).px,((aJ (bl.getD i aj) (bl.getD j aj) (aG (S.bods.getD (S.bo+i) dB).sh (⟨(bl.getD i aj).px,(bl.getD i aj).py⟩:V2) (S.bods.getD (S.bo+j) dB).sh (⟨(bl.getD j aj).px,(bl.getD j aj).py⟩:V2)).1 S.rest).1).py⟩)).set j (aI (S.body j).sh ⟨((aJ (bl.getD i aj) (bl.getD j aj) (aG (S.bods.getD (S.bo+i) dB).sh (⟨(bl.getD i aj).px,(bl.getD i aj).py⟩:V2) (S.bods.getD (S.bo+j) dB).sh (⟨(bl.getD j aj).px,(bl.getD j aj).py⟩:V2)).1 S.rest).2).px,((aJ (bl.getD i aj) (bl.getD j aj) (aG (S.bods.getD (S.bo+i) dB).sh (⟨(bl.getD i aj).px,(bl.getD i aj).py⟩:V2) (S.bods.getD (S.bo+j) dB).sh (⟨(bl.getD j aj).px,(bl.getD j aj).py⟩:V2)).1 S.rest).2).py⟩))) 25 (0,0))] [])) ?_
   exact⟨(sc+1,((bl.set i ((aJ (bl.getD i aj) (bl.getD j aj) (aG (S.bods.getD (S.bo+i) dB).sh (⟨(bl.getD i aj).px,(bl.getD i aj).py⟩:V2) (S.bods.getD (S.bo+j) dB).sh (⟨(bl.getD j aj).px,(bl.getD j aj).py⟩:V2)).1 S.rest).1)).set j ((aJ (bl.getD i aj) (bl.getD j aj) (aG (S.bods.getD (S.bo+i) dB).sh (⟨(bl.getD i aj).px,(bl.getD i aj).py⟩:V2) (S.bods.getD (S.bo+j) dB).sh (⟨(bl.getD j aj).px,(bl.getD j aj).py⟩:V2)).1 S.rest).2)),((hl.set i ((j:Int)+1)).set j ((i:Int)+1)),((xl.set i (aI (S.body i).sh ⟨((aJ (bl.getD i aj) (bl.getD j aj) (aG (S.bods.getD (S.bo+i) dB).sh (⟨(bl.getD i aj).px,(bl.getD i aj).py⟩:V2) (S.bods.getD (S.bo+j) dB).sh (⟨(bl.getD j aj).px,(bl.getD j aj).py⟩:V2)).1 S.rest).1).px,((aJ (bl.getD i aj) (bl.getD j aj) (aG (S.bods.getD (S.bo+i) dB).sh (⟨(bl.getD i aj).px,(bl.getD i aj).py⟩:V2) (S.bods.getD (S.bo+j) dB).sh (⟨(bl.getD j aj).px,(bl.getD j aj).py⟩:V2)).1 S.rest).1).py⟩)).set j (aI (S.body j).sh ⟨((aJ (bl.getD i aj) (bl.getD j aj) (aG (S.bods.getD (S.bo+i) dB).sh (⟨(bl.getD i aj).px,(bl.getD i aj).py⟩:V2) (S.bods.getD (S.bo+j) dB).sh (⟨(bl.getD j aj).px,(bl.getD j aj).py⟩:V2)).1 S.rest).2).px,((aJ (bl.getD i aj) (bl.getD j aj) (aG (S.bods.getD (S.bo+i) dB).sh (⟨(bl.getD i aj).px,(bl.getD i aj).py⟩:V2) (S.bods.getD (S.bo+j) dB).sh (⟨(bl.getD j aj).px,(bl.getD j aj).py⟩:V2)).1 S.rest).2).py⟩))),rfl,hW.con hV RZ (by omega) rfl rfl (by first|assumption|simpa using ‹_›) rfl,.inr rfl⟩
  ·refine aa 1 [] λ _=>RN.ret [] [3,4,5,6] [] (v:=.tuple #[]) (H':=(ap [(wp,.lit (Setup.l S++[vS bb 0 n n,vS hb 0 n n,vS xb 0 n n,vI sp,vI sc,vI ss]) 156 (0,0)),(bb,.rows 5 n (aD dk bl) 68 (0,0)),(hb,.rows 1 n (bk hl) 3 (0,0)),(xb,.rows 4 n (aD fj xl) 25 (0,0))] [])) ?_
   have e_:=JI hW (by omega) (by omega) h7
   exact⟨(sc,bl,hl,xl),rfl,by rw[e_];exact hW,.inl ⟨rfl,e_⟩⟩
 ·intro QY
  refine d5 14 15 ?_ ?_
  ·refine RDO.ev [] [] λ n9=>RD.one 15 (RDO.ev [] [] λ Qw=>?_)
   refine RD.one 16 (RDO.ev [2,3,4,5] (ow 1 5) λ _=>?_)
   refine RD.one 17 (RDO.ev [2,3,4,5] (ow 0 5) λ _=>?_)
   exact QY ⟨n9,Qw⟩ [0,1,2,3,4,5] []
  ·refine RDO.ev [] [] λ n11=>RD.one 14 (RDO.ev [] [] λ TF=>?_)
   refine RD.one 16 (RDO.ev [2,3,4,5] (ow 0 5) λ _=>?_)
   refine RD.one 17 (RDO.ev [2,3,4,5] (ow 1 5) λ _=>?_)
   exact QY ⟨TF,n11⟩ [1,0,2,3,4,5] []
theorem G2(S:Setup)(wp bb hb xb n q i j:Nat)(sp sc ss:Int)(xl:List Bx)(F:HL)(hw:(wp,.lit (Setup.l S++[vS bb 0 n n,vS hb 0 n n,vS xb 0 n n,vI sp,vI sc,vI ss]) 156 (0,0))∈F)(hq:(q,.lit [vP wp 0] 151 (0,0))∈F)(hx:(xb,.rows 4 n (aD fj xl) 25 (0,0))∈F)(hi:i<n)(hj:j<n):Sp Tryz.prog 94 #[vI (i:Int),vI (j:Int),vP q 0] [] F (λ u H'=>u=.bool (decide (xh (xl.getD i mw) (xl.getD j mw))) /\ H'=[]):=by
 refine Sp.run Tryz.func94 rfl (mc hw (mc hq (mc hx mn))) (A:=[]) (Ts:=[]) rfl λ w0=>?_
 refine aa 6 [] λ _=>RN.draw [] []<|aL [] [0,4,7,11,1,8,2,9,3,10,5,12,6,13] [.ro 1,.ro 1,.ro 0,.ro 0,.ix i,.ix j,.rorow 2 i 0,.rorow 2 i 1,.rorow 2 i 2,.rorow 2 i 3,.rorow 2 j 0,.rorow 2 j 1,.rorow 2 j 2,.rorow 2 j 3] [((0+j*4)+3)=j*4+3 /\ j<n,((0+j*4)+2)=j*4+2 /\ j<n,((0+j*4)+1)=j*4+1 /\ j<n,(0+j*4)=j*4+0 /\ j<n,((0+i*4)+3)=i*4+3 /\ i<n,((0+i*4)+2)=i*4+2 /\ i<n,((0+i*4)+1)=i*4+1 /\ i<n,(0+i*4)=i*4+0 /\ i<n,(j:Int)=((j:Nat):Int) /\ j<n,(i:Int)=((i:Nat):Int) /\ i<n]<|au [] 14 (λ X_=>(td (xl.getD i mw) (xl.getD j mw)  _))<|af [] [15] []<|RD.fin<|aa 1 [] λ _=>?_
 exact RN.ret [] [] [] ⟨rfl,rfl⟩
theorem G3(S:Setup)(wp bb hb xb n q q1 j:Nat)(sp sc ss:Int)(h0:Bx)(xl:List Bx)(F:HL)(hw:(wp,.lit (Setup.l S++[vS bb 0 n n,vS hb 0 n n,vS xb 0 n n,vI sp,vI sc,vI ss]) 156 (0,0))∈F)(Rc:(q1,.lit [vI h0.x0,vI h0.y0,vI h0.x1,vI h0.y1] 25 (0,0))∈F)(hq:(q,.lit [vP wp 0] 151 (0,0))∈F)(hx:(xb,.rows 4 n (aD fj xl) 25 (0,0))∈F)(hj:j<n):Sp Tryz.prog 138 #[vI (j:Int),vP q1 0,vP q 0] [] F (λ u H'=>u=.bool (!decide (xh h0 (xl.getD j mw))) /\ H'=[]):=by
 refine Sp.run Tryz.func138 rfl (mc hw (mc Rc (mc hq (mc hx mn)))) (A:=[]) (Ts:=[]) rfl λ w0=>?_
 refine aa 6 [] λ _=>RN.draw [] []<|aL [] [0,1,5,2,3,4,6,7] [.ro 1,.ro 1,.ro 1,.ro 1,.ro 2,.ro 0,.ix j,.rorow 3 j 0,.rorow 3 j 1,.rorow 3 j 2,.rorow 3 j 3] [((0+j*4)+3)=j*4+3 /\ j<n,((0+j*4)+2)=j*4+2 /\ j<n,((0+j*4)+1)=j*4+1 /\ j<n,(0+j*4)=j*4+0 /\ j<n,(j:Int)=((j:Nat):Int) /\ j<n]<|au [] 8 (λ X_=>(td h0 (xl.getD j mw)  _))<|af [] [9,10] []<|RD.fin<|aa 1 [] λ _=>?_
 exact RN.ret [] [] [] ⟨rfl,rfl⟩
theorem G4(S:Setup)(wp bb hb xb n i:Nat)(sp sc ss f:Int)(bl:List Mot)(xl:List Bx)(F:HL)(hS:SetIn F S)(hn:n=S.nb)(hi:i<n)(QV:bl.length=n)(RF:xl.length=n):Sp Tryz.prog 97 #[vP wp 0,vI (i:Int),vI f] [(wp,.lit (Setup.l S++[vS bb 0 n n,vS hb 0 n n,vS xb 0 n n,vI sp,vI sc,vI ss]) 156 (0,0)),(bb,.rows 5 n (aD dk bl) 68 (0,0)),(xb,.rows 4 n (aD fj xl) 25 (0,0))] F (λ _ H'=>H'=[(wp,.lit (Setup.l S++[vS bb 0 n n,vS hb 0 n n,vS xb 0 n n,vI sp,vI sc,vI ss]) 156 (0,0)),(bb,.rows 5 n (aD dk (bl.set i (gx S (bl.getD i aj) f))) 68 (0,0)),(xb,.rows 4 n (aD fj (xl.set i (aI (S.body i).sh ⟨(gx S (bl.getD i aj) f).px,(gx S (bl.getD i aj) f).py⟩))) 25 (0,0))]):=by
 have n_:=hS.room
 have RW:=hS.nb
 refine Sp.run Tryz.func97 rfl (mc hS.blk mn) (A:=[(wp,.lit (Setup.l S++[vS bb 0 n n,vS hb 0 n n,vS xb 0 n n,vI sp,vI sc,vI ss]) 156 (0,0)),(bb,.rows 5 n (aD dk bl) 68 (0,0)),(xb,.rows 4 n (aD fj xl) 25 (0,0))]) (Ts:=[]) rfl λ w0=>?_
 refine aa 1 [] λ _=>RN.draw [14,15] [0,1,2]<|aL [0,1,2] [0,4,7,1,8,2,9,3,10,5,11,6] [.own 0,.ix i,.ro 0,.ro 0,.ro 0,.ro 0,.row 1 i 0,.row 1 i 1,.row 1 i 2,.row 1 i 3,.row 1 i 4] [((0+i*5)+4)=i*5+4 /\ i<n,((0+i*5)+3)=i*5+3 /\ i<n,((0+i*5)+2)=i*5+2 /\ i<n,((0+i*5)+1)=i*5+1 /\ i<n,(0+i*5)=i*5+0 /\ i<n,(i:Int)=((i:Nat):Int) /\ i<n]<|fD (σ:=Nat × Nat) (λ ⟨n3,n4⟩=>⟨[(0,vP wp 0),(1,vI (i:Int)),(2,vI f),(6,vP (n3+0) 0),(7,vP (n4+0) 0)],[((n4+0),.lit [vI S.box.x0,vI S.box.y0,vI S.box.x1,vI S.box.y1] 25 (0,0)),((n3+0),.lit [vI ((bl.getD i aj).px),vI ((bl.getD i aj).py),vI ((bl.getD i aj).vx),vI ((bl.getD i aj).vy),vI ((bl.getD i aj).inv)] 68 (0,0)),(wp,.lit (Setup.l S++[vS bb 0 n n,vS hb 0 n n,vS xb 0 n n,vI sp,vI sc,vI ss]) 156 (0,0)),(bb,.rows 5 n (aD dk bl) 68 (0,0)),(xb,.rows 4 n (aD fj xl) 25 (0,0))],[],True,0⟩) ?_ ?_
 ·rintro⟨n3,n4⟩
  refine aa 2 [] λ _=>RN.draw [8] []<|af [] [0,2,4,1,3] [.own 1,.own 1,.own 1,.own 1]<|au [] 5 (λ X_=>(iM (⟨(bl.getD i aj).vx,(bl.getD i aj).vy⟩:V2) f 1024  _))<|au [] 6 (λ X_=>(dM (⟨(bl.getD i aj).px,(bl.getD i aj).py⟩:V2) (aY (⟨(bl.getD i aj).vx,(bl.getD i aj).vy⟩:V2) f 1024)  _))<|af [] [7] []<|RD.one 8 (RDO.ev [] [.own 1,.own 1] λ _=>?_)
  refine RD.fin<|aa 14 [.own 1,.own 1,.own 0,.own 0] λ _=>al (qE S wp bb hb xb n sp sc ss ((ay (⟨(bl.getD i aj).px,(bl.getD i aj).py⟩:V2) (aY (⟨(bl.getD i aj).vx,(bl.getD i aj).vy⟩:V2) f 1024)).x) ((bl.getD i aj).vx) S.box.x0 S.box.x1 _ (aC 2))<|aa 24 [.own 1,.own 1,.own 1,.own 1,.own 0,.own 0] λ _=>al (qE S wp bb hb xb n sp sc ss ((ay (⟨(bl.getD i aj).px,(bl.getD i aj).py⟩:V2) (aY (⟨(bl.getD i aj).vx,(bl.getD i aj).vy⟩:V2) f 1024)).y) ((bl.getD i aj).vy) S.box.y0 S.box.y1 _ (aC 2))<|aa 15 (ow 1 7) λ _=>RN.ct [3,4] [] (lD S wp bb hb xb n i sp sc ss bl xl (⟨az ((ay (⟨(bl.getD i aj).px,(bl.getD i aj).py⟩:V2) (aY (⟨(bl.getD i aj).vx,(bl.getD i aj).vy⟩:V2) f 1024)).x) S.box.x0 S.box.x1,az ((ay (⟨(bl.getD i aj).px,(bl.getD i aj).py⟩:V2) (aY (⟨(bl.getD i aj).vx,(bl.getD i aj).vy⟩:V2) f 1024)).y) S.box.y0 S.box.y1,mz ((ay (⟨(bl.getD i aj).px,(bl.getD i aj).py⟩:V2) (aY (⟨(bl.getD i aj).vx,(bl.getD i aj).vy⟩:V2) f 1024)).x) ((bl.getD i aj).vx) S.box.x0 S.box.x1 S.rest,mz ((ay (⟨(bl.getD i aj).px,(bl.getD i aj).py⟩:V2) (aY (⟨(bl.getD i aj).vx,(bl.getD i aj).vy⟩:V2) f 1024)).y) ((bl.getD i aj).vy) S.box.y0 S.box.y1 S.rest,(bl.getD i aj).inv⟩:Mot) _ (aC 2) hS.up hn (by omega) (by first|exact QV|(rw[List.length_set];exact QV)) (by first|exact RF|(rw[List.length_set];exact RF))) ?_
  rintro _ ⟨⟩ _
  refine aa 1 [] λ _=>RN.ret [] [4,0,1] [] (v:=.tuple #[]) (H':=[(wp,.lit (Setup.l S++[vS bb 0 n n,vS hb 0 n n,vS xb 0 n n,vI sp,vI sc,vI ss]) 156 (0,0)),(bb,.rows 5 n (aD dk (bl.set i (⟨az ((ay (⟨(bl.getD i aj).px,(bl.getD i aj).py⟩:V2) (aY (⟨(bl.getD i aj).vx,(bl.getD i aj).vy⟩:V2) f 1024)).x) S.box.x0 S.box.x1,az ((ay (⟨(bl.getD i aj).px,(bl.getD i aj).py⟩:V2) (aY (⟨(bl.getD i aj).vx,(bl.getD i aj).vy⟩:V2) f 1024)).y) S.box.y0 S.box.y1,mz ((ay (⟨(bl.getD i aj).px,(bl.getD i aj).py⟩:V2) (aY (⟨(bl.getD i aj).vx,(bl.getD i aj).vy⟩:V2) f 1024)).x) ((bl.getD i aj).vx) S.box.x0 S.box.x1 S.rest,mz ((ay (⟨(bl.getD i aj).px,(bl.getD i aj).py⟩:V2) (aY (⟨(bl.getD i aj).vx,(bl.getD i aj).vy⟩:V2) f 1024)).y) ((bl.getD i aj).vy) S.box.y0 S.box.y1 S.rest,(bl.getD i aj).inv⟩:Mot))) 68 (0,0)),(xb,.rows 4 n (aD fj (xl.set i (aI (S.body i).sh ⟨(⟨az ((ay (⟨(bl.getD i aj).px,(bl.getD i aj).py⟩:V2) (aY (⟨(bl.getD i aj).vx,(bl.getD i aj).vy⟩:V2) f 1024)).x) S.box.x0 S.box.x1,az ((ay (⟨(bl.getD i aj).px,(bl.getD i aj).py⟩:V2) (aY (⟨(bl.getD i aj).vx,(bl.getD i aj).vy⟩:V2) f 1024)).y) S.box.y0 S.box.y1,mz ((ay (⟨(bl.getD i aj).px,(bl.getD i aj).py⟩:V2) (aY (⟨(bl.getD i aj).vx,(bl.getD i aj).vy⟩:V2) f 1024)).x) ((bl.getD i aj).vx) S.box.x0 S.box.x1 S.rest,mz ((ay (⟨(bl.getD i aj).px,(bl.getD i aj).py⟩:V2) (aY (⟨(bl.getD i aj).vx,(bl.getD i aj).vy⟩:V2) f 1024)).y) ((bl.getD i aj).vy) S.box.y0 S.box.y1 S.rest,(bl.getD i aj).inv⟩:Mot).px,(⟨az ((ay (⟨(bl.getD i aj).px,(bl.getD i aj).py⟩:V2) (aY (⟨(bl.getD i aj).vx,(bl.getD i aj).vy⟩:V2) f 1024)).x) S.box.x0 S.box.x1,az ((ay (⟨(bl.getD i aj).px,(bl.getD i aj).py⟩:V2) (aY (⟨(bl.getD i aj).vx,(bl.getD i aj).vy⟩:V2) f 1024)).y) S.box.y0 S.box.y1,mz ((ay (⟨(bl.getD i aj).px,(bl.getD i aj).py⟩:V2) (aY (⟨(bl.getD i aj).vx,(bl.getD i aj).vy⟩:V2) f 1024)).x) ((bl.getD i aj).vx) S.box.x0 S.box.x1 S.rest,mz ((ay (⟨(bl.getD i aj).px,(bl.getD i aj).py⟩:V2) (aY (⟨(bl.getD i aj).vx,(bl.getD i aj).vy⟩:V2) f 1024)).y) ((bl.getD i aj).vy) S.box.y0 S.box.y1 S.rest,(bl.getD i aj).inv⟩:Mot).py⟩))) 25 (0,0))]) ?_
  rfl
 ·intro W4
  refine d5 12 13 ?_ ?_
  ·refine RDO.ev [] [] λ n6=>RD.one 13 (RDO.ev [] [] λ n7=>?_)
   refine RD.one 14 (RDO.ev [2,3,4] (ow 1 5) λ _=>?_)
   refine RD.one 15 (RDO.ev [2,3,4] [.own 0,.own 0,.own 0,.own 0] λ _=>?_)
   exact W4 ⟨n6,n7⟩ [0,1,2,3,4] []
  ·refine RDO.ev [] [] λ n8=>RD.one 12 (RDO.ev [] [] λ n9=>?_)
   refine RD.one 14 (RDO.ev [2,3,4] (ow 0 5) λ _=>?_)
   refine RD.one 15 (RDO.ev [2,3,4] [.own 1,.own 1,.own 1,.own 1] λ _=>?_)
   exact W4 ⟨n9,n8⟩ [1,0,2,3,4] []
theorem G5(S:Setup)(wp bb hb xb n i:Nat)(sp sc ss:Int)(W:MemS)(bl:List Mot)(hl:List Int)(xl:List Bx)(F:HL)(hS:SetIn F S)(hn:n=S.nb)(hi:i<n)(hW:WR S W bl hl xl)(ZH:0 <= ss /\ ss <= 1000000):Sp Tryz.prog 98 #[vP wp 0,vI (i:Int)] [(wp,.lit (Setup.l S++[vS bb 0 n n,vS hb 0 n n,vS xb 0 n n,vI sp,vI sc,vI ss]) 156 (0,0)),(bb,.rows 5 n (aD dk bl) 68 (0,0)),(xb,.rows 4 n (aD fj xl) 25 (0,0))] F (λ u H'=>∃s':Int,H'=ap [(wp,.lit (Setup.l S++[vS bb 0 n n,vS hb 0 n n,vS xb 0 n n,vI sp,vI sc,vI (s')]) 156 (0,0)),(bb,.rows 5 n (aD dk bl) 68 (0,0)),(xb,.rows 4 n (aD fj xl) 25 (0,0))] [] /\ (u=vI (gy S i 0 n 1024 W) /\ 0 <= s' /\ s' <= ss+n)):=by
 have n_:=hS.room
 have RW:=hS.nb
 refine Sp.run Tryz.func98 rfl (mc hS.blk mn) (A:=[(wp,.lit (Setup.l S++[vS bb 0 n n,vS hb 0 n n,vS xb 0 n n,vI sp,vI sc,vI ss]) 156 (0,0)),(bb,.rows 5 n (aD dk bl) 68 (0,0)),(xb,.rows 4 n (aD fj xl) 25 (0,0))]) (Ts:=[]) rfl λ w0=>?_
 refine aq 35 ([.own 0,.own 1,.ix i,.row 2 i 0,.row 2 i 1,.row 2 i 2,.row 2 i 3,.row 2 i 4]++ow 0 5++[.own 1,.own 2,.ix i,.rorow 0 (S.bo+i) 0,.rorow 0 (S.bo+i) 1,.own 0,.own 0]) [((S.bo*9+i*9)+1)=(S.bo+i)*9+1 /\ (S.bo+i)<S.bR,(S.bo*9+i*9)=(S.bo+i)*9+0 /\ (S.bo+i)<S.bR,(i:Int)=((i:Nat):Int) /\ i<S.nb,((0+i*5)+4)=i*5+4 /\ i<n,((0+i*5)+3)=i*5+3 /\ i<n,((0+i*5)+2)=i*5+2 /\ i<n,((0+i*5)+1)=i*5+1 /\ i<n,(0+i*5)=i*5+0 /\ i<n,(i:Int)=((i:Nat):Int) /\ i<n] λ n1=>RN.draw [16] []<|aL [] [0,4,7,8,10,1,9,11,2,3,5,6] [.own 2,.own 0,.own 0,.own 1,.own 1,.own 1,.own 1,.own 3,.ix i,.row 5 i 0,.row 5 i 1,.row 5 i 2,.row 5 i 3] [((0+i*4)+3)=i*4+3 /\ i<n,((0+i*4)+2)=i*4+2 /\ i<n,((0+i*4)+1)=i*4+1 /\ i<n,(0+i*4)=i*4+0 /\ i<n,(i:Int)=((i:Nat):Int) /\ i<n]<|au [] 12 (λ X_=>(dM (⟨(bl.getD i aj).px,(bl.getD i aj).py⟩:V2) (⟨(bl.getD i aj).vx,(bl.getD i aj).vy⟩:V2)  _))<|au [] 13 (λ X_=>(jL (S.bods.getD (S.bo+i) dB).sh (ay (⟨(bl.getD i aj).px,(bl.getD i aj).py⟩:V2) (⟨(bl.getD i aj).vx,(bl.getD i aj).vy⟩:V2)) _ ((hS.shp i (by omega)).up.up)))<|au [] 14 (λ X_=>(GZ (xl.getD i mw) (aI (S.bods.getD (S.bo+i) dB).sh (ay (⟨(bl.getD i aj).px,(bl.getD i aj).py⟩:V2) (⟨(bl.getD i aj).vx,(bl.getD i aj).vy⟩:V2))) _))<|RD.one 15 (RDO.ev [] [] λ n2=>?_)
 refine RD.one 16 (RDO.ev [] [.own 0,.own 0,.own 0,.own 0] λ _=>?_)
 refine RD.fin<|aa 24 [.own 3,.own 4] λ _=>RN.loop (σ:=Nat × Int × Int) (λ ⟨j_,f_,s_⟩=>⟨[(1,vI (i:Int)),(2,vP (n1+0) 0),(5,vP (n1+1) 0),(6,vP (n1+2) 0),(8,.func (.func 138) #[] #[vP (n2+0) 0,vP (n1+0) 0]),(9,vI f_),(47,vS bb 0 n n),(48,vI (n:Int)),(49,vI (j_:Int))],[((n2+0),.lit [vI ((iy (xl.getD i mw) (aI (S.bods.getD (S.bo+i) dB).sh (ay (⟨(bl.getD i aj).px,(bl.getD i aj).py⟩:V2) (⟨(bl.getD i aj).vx,(bl.getD i aj).vy⟩:V2)))).x0),vI ((iy (xl.getD i mw) (aI (S.bods.getD (S.bo+i) dB).sh (ay (⟨(bl.getD i aj).px,(bl.getD i aj).py⟩:V2) (⟨(bl.getD i aj).vx,(bl.getD i aj).vy⟩:V2)))).y0),vI ((iy (xl.getD i mw) (aI (S.bods.getD (S.bo+i) dB).sh (ay (⟨(bl.getD i aj).px,(bl.getD i aj).py⟩:V2) (⟨(bl.getD i aj).vx,(bl.getD i aj).vy⟩:V2)))).x1),vI ((iy (xl.getD i mw) (aI (S.bods.getD (S.bo+i) dB).sh (ay (⟨(bl.getD i aj).px,(bl.getD i aj).py⟩:V2) (⟨(bl.getD i aj).vx,(bl.getD i aj).vy⟩:V2)))).y1)] 25 (0,0)),((n1+2),.lit [vI ((S.bods.getD (S.bo+i) dB).sh.r),.slice ((S.bods.getD (S.bo+i) dB).sh.A) ((S.bods.getD (S.bo+i) dB).sh.poly.length) ((S.bods.getD (S.bo+i) dB).sh.cap)] 71 (0,0)),((n1+1),.lit [vI ((bl.getD i aj).px),vI ((bl.getD i aj).py),vI ((bl.getD i aj).vx),vI ((bl.getD i aj).vy),vI ((bl.getD i aj).inv)] 68 (0,0)),((n1+0),.lit [vP wp 0] 151 (0,0)),(wp,.lit (Setup.l S++[vS bb 0 n n,vS hb 0 n n,vS xb 0 n n,vI sp,vI sc,vI s_]) 156 (0,0)),(bb,.rows 5 n (aD dk bl) 68 (0,0)),(xb,.rows 4 n (aD fj xl) 25 (0,0))],[],j_ <= n /\ (0 <= s_ /\ s_ <= ss+j_) /\ gy S i 0 n 1024 W=gy S i j_ (n-j_) f_ W,n-j_⟩) (0,1024,ss) [0,1,2,3,4,5,6] [] (⟨Nat.zero_le _,by omega,rfl⟩) ?_
 rintro⟨j_,f_,s_⟩ ⟨UR,P1,Ud⟩ Sq
 refine aa 6 [] λ _=>RN.em ((j_:Int)<(n:Int)) 50 (λ h5=>?_) λ h5=>?_
 ·refine aa 6 [] λ _=>?_
  obtain⟨XY,her_⟩:=Ml hW (i:=i) (j:=j_) (by omega) (by omega)
  have Rn:∀f:Int,gy S i j_ (n-j_) f W=gy S i ((j_:Int)+1) (n-(j_+1)) (if (i:Int)=(j_:Int) then f else if mA S i j_ W then f else if iw S i j_ W<f then iw S i j_ W else f) W:=λ f=>by rw[show n-j_=(n-(j_+1))+1 by omega];rfl
  refine aq 17 ([.ix j_,.row 5 j_ 0,.row 5 j_ 1,.row 5 j_ 2,.row 5 j_ 3,.row 5 j_ 4]++ow 0 5) [((0+j_*5)+4)=j_*5+4 /\ j_<n,((0+j_*5)+3)=j_*5+3 /\ j_<n,((0+j_*5)+2)=j_*5+2 /\ j_<n,((0+j_*5)+1)=j_*5+1 /\ j_<n,(0+j_*5)=j_*5+0 /\ j_<n,(j_:Int)=((j_:Nat):Int) /\ j_<n] λ n6=>RN.em ((j_:Int)=(i:Int)) 56 (λ h7=>?_) λ h7=>?_
  ·refine aq 9 [.nw] [bF ((j_:Int)+1)] λ _=>bZ 49 (congrArg (λ v_=>(vI v_:Value)) (show (j_:Int)+1=((j_+1:Nat):Int) by omega)) ?_
   refine Sq (j_+1,f_,s_) [1,2,3,4,5,6,7] [] ?_
   try dsimp only
   refine⟨⟨by omega,by omega,?_⟩,by omega⟩
   rw[Ud,Rn]
   rw[if_pos h7.symm]
   all_goals rfl
  ·refine aa 8 [] λ _=>al (G3 S wp bb hb xb n (n1+0) (n2+0) j_ sp sc s_ (iy (xl.getD i mw) (aI (S.bods.getD (S.bo+i) dB).sh (ay (⟨(bl.getD i aj).px,(bl.getD i aj).py⟩:V2) (⟨(bl.getD i aj).vx,(bl.getD i aj).vy⟩:V2)))) xl _ (aC 5) (aC 1) (aC 4) (aC 7) (by omega))<|aa 2 [] λ _=>RN.en (xh (iy (xl.getD i mw) (aI (S.bods.getD (S.bo+i) dB).sh (ay (⟨(bl.getD i aj).px,(bl.getD i aj).py⟩:V2) (⟨(bl.getD i aj).vx,(bl.getD i aj).vy⟩:V2)))) (xl.getD j_ mw)) 59 (λ h8=>?_) λ h8=>?_
   ·refine aa 3 [] λ _=>RN.draw [] []<|aL [] [0,1,2,4,6,11,15,17,3,5,7,16,8,9,10,12,13,14] [.own 2,.own 2,.own 4,.own 3,.own 3,.own 3,.own 3,.own 0,.own 0,.own 5,.ix j_,.rorow 0 (S.bo+j_) 0,.rorow 0 (S.bo+j_) 1] [((S.bo*9+j_*9)+1)=(S.bo+j_)*9+1 /\ (S.bo+j_)<S.bR,(S.bo*9+j_*9)=(S.bo+j_)*9+0 /\ (S.bo+j_)<S.bR,(j_:Int)=((j_:Nat):Int) /\ j_<S.nb]<|au [] 18 (λ X_=>(mT (S.bods.getD (S.bo+i) dB).sh (⟨(bl.getD i aj).px,(bl.getD i aj).py⟩:V2) (⟨(bl.getD i aj).vx,(bl.getD i aj).vy⟩:V2) (S.bods.getD (S.bo+j_) dB).sh (⟨(bl.getD j_ aj).px,(bl.getD j_ aj).py⟩:V2) (⟨0,0⟩:V2) _ ((hS.shp i (by omega)).up.up) ((hS.shp j_ (by omega)).up.up)))<|af [] [19,20] []<|RD.fin<|aq 6 [.nw] [bF ((j_:Int)+1)] λ _=>bZ 49 (congrArg (λ v_=>(vI v_:Value)) (show (j_:Int)+1=((j_+1:Nat):Int) by omega)) ?_
    refine Sq (j_+1,if fw (S.bods.getD (S.bo+i) dB).sh (⟨(bl.getD i aj).px,(bl.getD i aj).py⟩:V2) (⟨(bl.getD i aj).vx,(bl.getD i aj).vy⟩:V2) (S.bods.getD (S.bo+j_) dB).sh (⟨(bl.getD j_ aj).px,(bl.getD j_ aj).py⟩:V2) (⟨0,0⟩:V2)<f_ then fw (S.bods.getD (S.bo+i) dB).sh (⟨(bl.getD i aj).px,(bl.getD i aj).py⟩:V2) (⟨(bl.getD i aj).vx,(bl.getD i aj).vy⟩:V2) (S.bods.getD (S.bo+j_) dB).sh (⟨(bl.getD j_ aj).px,(bl.getD j_ aj).py⟩:V2) (⟨0,0⟩:V2) else f_,s_) [1,2,3,4,5,6,7] [] ?_
    try dsimp only
    refine⟨⟨by omega,by omega,?_⟩,by omega⟩
    rw[Ud,Rn]
    rw[if_neg (λ e_=>h7 e_.symm),if_neg (λ e_=>XY.1 e_ h8),her_]
    all_goals rfl
   ·refine aq 23 [.own 4,.own 5,.nw,.own 5,.nw] [bF ((j_:Int)+1),bF (s_+1)] λ _=>bZ 49 (congrArg (λ v_=>(vI v_:Value)) (show (j_:Int)+1=((j_+1:Nat):Int) by omega)) ?_
    refine Sq (j_+1,f_,s_+1) [1,2,3,4,5,6,7] [] ?_
    try dsimp only
    refine⟨⟨by omega,by omega,?_⟩,by omega⟩
    rw[Ud,Rn]
    rw[if_neg (λ e_=>h7 e_.symm),if_pos (XY.2 h8)]
    all_goals rfl
 ·refine aa 12 [] λ _=>RN.ret [] [4,5,6] [] (v:=vI f_) (H':=(ap [(wp,.lit (Setup.l S++[vS bb 0 n n,vS hb 0 n n,vS xb 0 n n,vI sp,vI sc,vI s_]) 156 (0,0)),(bb,.rows 5 n (aD dk bl) 68 (0,0)),(xb,.rows 4 n (aD fj xl) 25 (0,0))] [])) ?_
  exact⟨s_,rfl,by rw[Ud,show n-j_=0 by omega];rfl,P1.1,by omega⟩
theorem JK(S:Setup)(wp bb hb xb n i:Nat)(sp sc ss f:Int)(bl:List Mot)(xl:List Bx)(F:HL)(hS:SetIn F S)(hn:n=S.nb)(hi:i<n)(QV:bl.length=n)(RF:xl.length=n):Sp Tryz.prog 97 #[vP wp 0,vI (i:Int),vI f] (ap [(wp,.lit (Setup.l S++[vS bb 0 n n,vS hb 0 n n,vS xb 0 n n,vI sp,vI sc,vI ss]) 156 (0,0)),(bb,.rows 5 n (aD dk bl) 68 (0,0)),(xb,.rows 4 n (aD fj xl) 25 (0,0))] []) F (λ u H'=>∃x:Unit,H'=ap [(wp,.lit (Setup.l S++[vS bb 0 n n,vS hb 0 n n,vS xb 0 n n,vI sp,vI sc,vI ss]) 156 (0,0)),(bb,.rows 5 n (aD dk (bl.set i (gx S (bl.getD i aj) f))) 68 (0,0)),(xb,.rows 4 n (aD fj (xl.set i (aI (S.body i).sh ⟨(gx S (bl.getD i aj) f).px,(gx S (bl.getD i aj) f).py⟩))) 25 (0,0))] [] /\ True) :=
 (G4 S wp bb hb xb n i sp sc ss f bl xl F hS hn hi QV RF).mono λ u H' h_=>⟨(),by rw[h_];rfl,trivial⟩
theorem JL(S:Setup)(wp bb hb xb n i:Nat)(sp sc ss:Int)(W:MemS)(bl:List Mot)(hl:List Int)(xl:List Bx)(F:HL)(hS:SetIn F S)(hn:n=S.nb)(hi:i<n)(hW:WR S W bl hl xl)(ZH:0 <= ss /\ ss <= 1000000):Sp Tryz.prog 98 #[vP wp 0,vI (i:Int)] (ap [(wp,.lit (Setup.l S++[vS bb 0 n n,vS hb 0 n n,vS xb 0 n n,vI sp,vI sc,vI ss]) 156 (0,0)),(bb,.rows 5 n (aD dk bl) 68 (0,0)),(xb,.rows 4 n (aD fj xl) 25 (0,0))] []) F (λ u H'=>∃s':Int,H'=ap [(wp,.lit (Setup.l S++[vS bb 0 n n,vS hb 0 n n,vS xb 0 n n,vI sp,vI sc,vI (s')]) 156 (0,0)),(bb,.rows 5 n (aD dk bl) 68 (0,0)),(xb,.rows 4 n (aD fj xl) 25 (0,0))] [] /\ (u=vI (gy S i 0 n 1024 W) /\ 0 <= s' /\ s' <= ss+n)) :=
 G5 S wp bb hb xb n i sp sc ss W bl hl xl F hS hn hi hW ZH
theorem wZ(a:Shp)(pa va:V2)(b:Shp)(pb vb:V2):∀ (n k:Nat),k+n <= 8 -> 0 <= jl a pa va b pb vb n k /\ jl a pa va b pb vb n k <= 1024
 | 0,_,_=>by rw[jl];omega
 | n+1,k,h=>by
  rw[jl]
  split
  ·omega
  ·exact wZ a pa va b pb vb n (k+1) (by omega)
theorem JM(S:Setup)(i j:Int)(M:MemS):0 <= iw S i j M /\ iw S i j M <= 1024:=by
 have h:=wZ (S.body i.toNat).sh ⟨(ai S M i).px,(ai S M i).py⟩ ⟨(ai S M i).vx,(ai S M i).vy⟩ (S.body j.toNat).sh ⟨(ai S M j).px,(ai S M j).py⟩ ⟨0,0⟩ 8 0 (by omega)
 show 0 <= fw _ _ _ _ _ _ /\ fw _ _ _ _ _ _ <= 1024
 unfold fw
 split
 ·omega
 ·exact h
theorem AV(S:Setup)(i:Int)(M:MemS):∀ (k:Nat) (j f:Int),0 <= f /\ f <= 1024 -> 0 <= gy S i j k f M /\ gy S i j k f M <= 1024
 | 0,_,_,h=>h
 | k+1,j,f,h=>by
  rw[gy]
  refine AV S i M k (j+1) _ ?_
  have:=JM S i j M
  split
  ·exact h
  ·split
   ·exact h
   ·split <;> omega
theorem yZ{S:Setup}(hV:SetV S)(hm:∀k,k<S.nb -> GH (S.body k).sh){W:MemS}{bl:List Mot}{hl:List Int}{xl:List Bx}(hW:WR S W bl hl xl)(hA:BiA S W){n i:Nat}(hn:n=S.nb)(hi:i<n) :
  (0 <= gy S i 0 n 1024 W /\ gy S i 0 n 1024 W <= 1024) /\ (0<(bl.getD i aj).inv -> ∀f,(if gy S i 0 n 1024 W+128<1024 then gy S i 0 n 1024 W+128 else 1024)=f -> WR S (yT S i W) (bl.set i (gx S (bl.getD i aj) f)) hl (xl.set i (aI (S.body i).sh ⟨(gx S (bl.getD i aj) f).px,(gx S (bl.getD i aj) f).py⟩))) /\ (¬ 0<(bl.getD i aj).inv -> yT S i W=W):=by
 subst hn
 have e0:(bl.getD i aj).inv=(S.body i).mot.inv:=by rw[hW.b i hi];rfl
 have e1:gy S i 0 S.nb 1024 W=ri S i 0 S.nb 1024 W:=wU (i:=(i:Int)) hA ⟨by omega,by omega⟩ (by rw[Int.toNat_natCast];exact hm i hi) S.nb 0 1024 (by omega) (by omega) (by omega)
 have hb:=AV S i W S.nb 0 1024 (by omega)
 refine⟨hb,λ h f hf=>?_,λ h=>?_⟩
 ·have hp:movP S i:=⟨⟨by omega,by omega⟩,by rw[e0] at h;exact h⟩
  unfold yT
  rw[if_pos hp,<- e1]
  exact hW.mv hV hi rfl _ (by rw[aK (by omega)];exact hf)
 ·unfold yT
  exact if_neg λ hp=>h (by rw[e0];exact hp.2)
theorem CS(S:Setup)(wp bb hb xb n:Nat)(sp sc ss:Int)(W:MemS)(bl:List Mot)(hl:List Int)(xl:List Bx)(F:HL)(hS:SetIn F S)(hV:SetV S)(hB:BoxV S)(hm:∀k,k<S.nb -> GH (S.body k).sh)(hn:n=S.nb)(hW:WR S W bl hl xl)(hA:BiA S W)(ZH:0 <= ss /\ ss <= 100000):Sp Tryz.prog 68 #[vP wp 0] (ap [(wp,.lit (Setup.l S++[vS bb 0 n n,vS hb 0 n n,vS xb 0 n n,vI sp,vI sc,vI ss]) 156 (0,0)),(bb,.rows 5 n (aD dk bl) 68 (0,0)),(xb,.rows 4 n (aD fj xl) 25 (0,0))] []) F (λ _ H'=>∃x:Int × List Mot × List Bx,H'=ap [(wp,.lit (Setup.l S++[vS bb 0 n n,vS hb 0 n n,vS xb 0 n n,vI sp,vI sc,vI x.1]) 156 (0,0)),(bb,.rows 5 n (aD dk x.2.1) 68 (0,0)),(xb,.rows 4 n (aD fj x.2.2) 25 (0,0))] [] /\ (WR S (rj S 0 n W) x.2.1 hl x.2.2 /\ 0 <= x.1 /\ x.1 <= ss+100)):=by
 have n_:=hS.room
 have RW:=hS.nb
 have hnV:=hV.nb
 refine Sp.run Tryz.func68 rfl mn (A:=[(wp,.lit (Setup.l S++[vS bb 0 n n,vS hb 0 n n,vS xb 0 n n,vI sp,vI sc,vI ss]) 156 (0,0)),(bb,.rows 5 n (aD dk bl) 68 (0,0)),(xb,.rows 4 n (aD fj xl) 25 (0,0))]) (Ts:=[]) rfl λ w0=>?_
 refine aa 11 [.own 0] λ _=>RN.loop (σ:=Nat × List Mot × List Bx × Int × MemS) (λ ⟨j_,b_,x_,s_,W_⟩=>⟨[(0,vP wp 0),(7,vS bb 0 n n),(8,vI (n:Int)),(9,vI (j_:Int))],[(wp,.lit (Setup.l S++[vS bb 0 n n,vS hb 0 n n,vS xb 0 n n,vI sp,vI sc,vI s_]) 156 (0,0)),(bb,.rows 5 n (aD dk b_) 68 (0,0)),(xb,.rows 4 n (aD fj x_) 25 (0,0))],[],j_ <= n /\ (0 <= s_ /\ s_ <= ss+10*j_) /\ rj S 0 n W=rj S j_ (n-j_) W_ /\ WR S W_ b_ hl x_ /\ BiA S W_,n-j_⟩) (0,bl,xl,ss,W) [0,1,2] [] (⟨Nat.zero_le _,by omega,rfl,hW,hA⟩) ?_
 rintro⟨j_,b_,x_,s_,W_⟩ ⟨UR,P1,VE,R2,WJ⟩ QF
 refine aa 6 [] λ _=>RN.em ((j_:Int)<(n:Int)) 10 (λ h3=>?_) λ h3=>?_
 ·refine aa 6 [] λ _=>?_
  have hlb_:b_.length=n:=R2.lb.trans hn.symm
  have hlx_:x_.length=n:=R2.lx.trans hn.symm
  have SA:=yZ hV hm R2 WJ hn (i:=j_) (by omega)
  have hfb_:=SA.1
  refine aq 16 ([.ix j_,.row 1 j_ 0,.row 1 j_ 1,.row 1 j_ 2,.row 1 j_ 3,.row 1 j_ 4]++ow 0 6) [((0+j_*5)+4)=j_*5+4 /\ j_<n,((0+j_*5)+3)=j_*5+3 /\ j_<n,((0+j_*5)+2)=j_*5+2 /\ j_<n,((0+j_*5)+1)=j_*5+1 /\ j_<n,(0+j_*5)=j_*5+0 /\ j_<n,(j_:Int)=((j_:Nat):Int) /\ j_<n] λ n4=>RN.em ((b_.getD j_ aj).inv>0) 16 (λ h5=>?_) λ h5=>?_
  ·refine aa 6 [] λ _=>RN.ct [1,2,3] [] (JL S wp bb hb xb n j_ sp sc s_ W_ b_ hl x_ _ hS.up hn (by omega) R2 (by omega)) ?_
   rintro _ TC ⟨rfl,QG,hs3_⟩
   refine aq 2 [.nw] [bF ((gy S j_ 0 n 1024 W_)+128)] λ _=>RN.ct [0,1,2] [] (JK S wp bb hb xb n j_ sp sc TC (if (gy S j_ 0 n 1024 W_)+128<1024 then (gy S j_ 0 n 1024 W_)+128 else 1024) b_ x_ _ hS.up hn (by omega) hlb_ hlx_) ?_
   rintro _ ⟨⟩ _
   refine aq 7 [.nw] [bF ((j_:Int)+1)] λ _=>bZ 9 (congrArg (λ v_=>(vI v_:Value)) (show (j_:Int)+1=((j_+1:Nat):Int) by omega)) ?_
   refine QF (j_+1,(b_.set j_ (gx S (b_.getD j_ aj) (if (gy S j_ 0 n 1024 W_)+128<1024 then (gy S j_ 0 n 1024 W_)+128 else 1024))),(x_.set j_ (aI (S.body j_).sh ⟨(gx S (b_.getD j_ aj) (if (gy S j_ 0 n 1024 W_)+128<1024 then (gy S j_ 0 n 1024 W_)+128 else 1024)).px,(gx S (b_.getD j_ aj) (if (gy S j_ 0 n 1024 W_)+128<1024 then (gy S j_ 0 n 1024 W_)+128 else 1024)).py⟩)),TC,yT S j_ W_) [0,1,2] [] ?_
   try dsimp only
   refine⟨⟨by omega,by omega,by rw[VE,show n-j_=(n-(j_+1))+1 by omega];rfl,?_,GL hB WJ⟩,by omega⟩
   first|exact SA.2.1 (by assumption) _ rfl|(rw[SA.2.2 (by omega)];exact R2)
  ·refine aq 8 [.nw] [bF ((j_:Int)+1)] λ _=>bZ 9 (congrArg (λ v_=>(vI v_:Value)) (show (j_:Int)+1=((j_+1:Nat):Int) by omega)) ?_
   refine QF (j_+1,b_,x_,s_,yT S j_ W_) [1,2,3] [] ?_
   try dsimp only
   refine⟨⟨by omega,by omega,by rw[VE,show n-j_=(n-(j_+1))+1 by omega];rfl,?_,GL hB WJ⟩,by omega⟩
   first|exact SA.2.1 (by assumption) _ rfl|(rw[SA.2.2 (by omega)];exact R2)
 ·refine aa 5 [] λ _=>RN.ret [] [0,1,2] [] (v:=.tuple #[]) (H':=(ap [(wp,.lit (Setup.l S++[vS bb 0 n n,vS hb 0 n n,vS xb 0 n n,vI sp,vI sc,vI s_]) 156 (0,0)),(bb,.rows 5 n (aD dk b_) 68 (0,0)),(xb,.rows 4 n (aD fj x_) 25 (0,0))] [])) ?_
  exact⟨(s_,b_,x_),rfl,by rw[VE,show n-j_=0 by omega];exact R2,P1.1,by omega⟩
theorem JN(S:Setup)(wp bb hb xb n i j:Nat)(sp sc ss:Int)(W:MemS)(bl:List Mot)(hl:List Int)(xl:List Bx)(F:HL)(hV:SetV S)(hS:SetIn F S)(hn:n=S.nb)(hW:WR S W bl hl xl)(RZ:i<j)(hj:j<n)(YD:0 <= sc /\ sc <= 1000000):Sp Tryz.prog 96 #[vP wp 0,vI (i:Int),vI (j:Int)] (ap [(wp,.lit (Setup.l S++[vS bb 0 n n,vS hb 0 n n,vS xb 0 n n,vI sp,vI sc,vI ss]) 156 (0,0)),(bb,.rows 5 n (aD dk bl) 68 (0,0)),(hb,.rows 1 n (bk hl) 3 (0,0)),(xb,.rows 4 n (aD fj xl) 25 (0,0))] []) F (λ u H'=>∃x:Int × List Mot × List Int × List Bx,H'=ap [(wp,.lit (Setup.l S++[vS bb 0 n n,vS hb 0 n n,vS xb 0 n n,vI sp,vI x.1,vI ss]) 156 (0,0)),(bb,.rows 5 n (aD dk x.2.1) 68 (0,0)),(hb,.rows 1 n (bk x.2.2.1) 3 (0,0)),(xb,.rows 4 n (aD fj x.2.2.2) 25 (0,0))] [] /\ (WR S (fR S i j W) x.2.1 x.2.2.1 x.2.2.2 /\ ((x.1=sc /\ fR S i j W=W) \/ x.1=sc+1))) :=
 wY S wp bb hb xb n i j sp sc ss W bl hl xl F hS hV hn hW RZ hj (hW.lb.trans hn.symm) (hW.lh.trans hn.symm) (hW.lx.trans hn.symm) YD
theorem ug(S:Setup)(wp bb hb xb n:Nat)(sp sc ss:Int)(W:MemS)(bl:List Mot)(hl:List Int)(xl:List Bx)(F:HL)(hS:SetIn F S)(hV:SetV S)(hn:n=S.nb)(hW:WR S W bl hl xl)(Rb:0 <= sp /\ sp <= 1000)(YD:0 <= sc /\ sc <= 1000):Sp Tryz.prog 67 #[vP wp 0] (ap [(wp,.lit (Setup.l S++[vS bb 0 n n,vS hb 0 n n,vS xb 0 n n,vI sp,vI sc,vI ss]) 156 (0,0)),(bb,.rows 5 n (aD dk bl) 68 (0,0)),(hb,.rows 1 n (bk hl) 3 (0,0)),(xb,.rows 4 n (aD fj xl) 25 (0,0))] []) F (λ _ H'=>∃x:Int × Int × List Mot × List Int × List Bx,H'=ap [(wp,.lit (Setup.l S++[vS bb 0 n n,vS hb 0 n n,vS xb 0 n n,vI x.1,vI x.2.1,vI ss]) 156 (0,0)),(bb,.rows 5 n (aD dk x.2.2.1) 68 (0,0)),(hb,.rows 1 n (bk x.2.2.2.1) 3 (0,0)),(xb,.rows 4 n (aD fj x.2.2.2.2) 25 (0,0))] [] /\ (WR S (iH S S.rounds.toNat W) x.2.2.1 x.2.2.2.1 x.2.2.2.2 /\ (0 <= x.1 /\ x.1 <= sp+300) /\ (0 <= x.2.1 /\ x.2.1 <= sc+300))):=by
 have n_:=hS.room
 have hnV:=hV.nb
 have hrV:=hV.ro
 refine Sp.run Tryz.func67 rfl mn (A:=[(wp,.lit (Setup.l S++[vS bb 0 n n,vS hb 0 n n,vS xb 0 n n,vI sp,vI sc,vI ss]) 156 (0,0)),(bb,.rows 5 n (aD dk bl) 68 (0,0)),(hb,.rows 1 n (bk hl) 3 (0,0)),(xb,.rows 4 n (aD fj xl) 25 (0,0))]) (Ts:=[]) rfl λ w0=>?_
 refine aa 22 [.own 0,.own 1] λ n1=>RN.loop (σ:=Nat × Int × Int × List Mot × List Int × List Bx × MemS) (λ ⟨r_,Vc,Si,U2,U1,Uz,U5⟩=>⟨[(1,vP (n1+0) 0),(2,.func (.func 94) #[] #[vP (n1+0) 0]),(11,vI S.rounds),(12,vI (r_:Int))],[((n1+0),.lit [vP wp 0] 151 (0,0)),(wp,.lit (Setup.l S++[vS bb 0 n n,vS hb 0 n n,vS xb 0 n n,vI Vc,vI Si,vI ss]) 156 (0,0)),(bb,.rows 5 n (aD dk U2) 68 (0,0)),(hb,.rows 1 n (bk U1) 3 (0,0)),(xb,.rows 4 n (aD fj Uz) 25 (0,0))],[],r_ <= S.rounds.toNat /\ (0 <= Vc /\ Vc <= sp+100*r_) /\ (0 <= Si /\ Si <= sc+100*r_) /\ iH S S.rounds.toNat W=iH S (S.rounds.toNat-r_) U5 /\ WR S U5 U2 U1 Uz,S.rounds.toNat-r_⟩) (0,sp,sc,bl,hl,xl,W) [0,1,2,3,4] [] (⟨by omega,by omega,by omega,rfl,hW⟩) ?_
 rintro⟨r_,Vc,Si,U2,U1,Uz,U5⟩ ⟨RH,hp0_,hc0_,R0,S0⟩ PK
 refine aa 6 [] λ _=>RN.em ((r_:Int)<S.rounds) 13 (λ h4=>?_) λ h4=>?_
 ·refine aa 27 [.own 0,.own 1,.own 0,.own 1] λ _=>RN.loop (σ:=Nat × Int × Int × List Mot × List Int × List Bx × MemS) (λ ⟨i_,RT,QE,Uw,PY,TA,U4⟩=>⟨[(1,vP (n1+0) 0),(2,.func (.func 94) #[] #[vP (n1+0) 0]),(3,vI Si),(11,vI S.rounds),(12,vI (r_:Int)),(23,vI (n:Int)),(24,vI (i_:Int))],[((n1+0),.lit [vP wp 0] 151 (0,0)),(wp,.lit (Setup.l S++[vS bb 0 n n,vS hb 0 n n,vS xb 0 n n,vI RT,vI QE,vI ss]) 156 (0,0)),(bb,.rows 5 n (aD dk Uw) 68 (0,0)),(hb,.rows 1 n (bk PY) 3 (0,0)),(xb,.rows 4 n (aD fj TA) 25 (0,0))],[],i_ <= n /\ (0 <= RT /\ RT <= sp+100*r_+10*i_) /\ (Si <= QE /\ QE <= sc+100*r_+10*i_) /\ mt S 0 n U5=mt S i_ (n-i_) U4 /\ WR S U4 Uw PY TA /\ (QE=Si -> U4=U5),n-i_⟩) (0,Vc,Si,U2,U1,Uz,U5) [0,1,2,3,4] [] (⟨by omega,by omega,by omega,rfl,S0,λ _=>rfl⟩) ?_
  rintro⟨i_,RT,QE,Uw,PY,TA,U4⟩ ⟨YO,Xo,XN,VN,R3,XG⟩ So
  refine aa 6 [] λ _=>RN.em ((i_:Int)<(n:Int)) 25 (λ h7=>?_) λ h7=>?_
  ·refine aq 19 [.nw] [bF ((i_:Int)+1)] λ _=>RN.loop (σ:=Nat × Int × Int × List Mot × List Int × List Bx × MemS) (λ ⟨j_,p_,c_,b_,h_,x_,W_⟩=>⟨[(1,vP (n1+0) 0),(2,.func (.func 94) #[] #[vP (n1+0) 0]),(3,vI Si),(4,vI (i_:Int)),(5,vI (j_:Int)),(11,vI S.rounds),(12,vI (r_:Int)),(23,vI (n:Int)),(24,vI (i_:Int))],[((n1+0),.lit [vP wp 0] 151 (0,0)),(wp,.lit (Setup.l S++[vS bb 0 n n,vS hb 0 n n,vS xb 0 n n,vI p_,vI c_,vI ss]) 156 (0,0)),(bb,.rows 5 n (aD dk b_) 68 (0,0)),(hb,.rows 1 n (bk h_) 3 (0,0)),(xb,.rows 4 n (aD fj x_) 25 (0,0))],[],(i_<j_ /\ j_ <= n) /\ (0 <= p_ /\ p_ <= sp+100*r_+10*i_+j_) /\ (QE <= c_ /\ c_ <= sc+100*r_+10*i_+j_) /\ qA S i_ ((i_+1:Nat):Int) (n-(i_+1)) U4=qA S i_ j_ (n-j_) W_ /\ WR S W_ b_ h_ x_ /\ (c_=QE -> W_=U4),n-j_⟩) (i_+1,RT,QE,Uw,PY,TA,U4) [0,1,2,3,4] [] (⟨by omega,by omega,by omega,rfl,R3,λ _=>rfl⟩) ?_
   rintro⟨j_,p_,c_,b_,h_,x_,W_⟩ ⟨UR,hp_,Sh,US,R2,Pw⟩ Yw
   refine aa 12 [.own 0,.own 1] λ _=>RN.em ((j_:Int)<(n:Int)) 35 (λ Qe=>?_) λ Qe=>?_
   ·refine aa 10 [] λ _=>al (G2 S wp bb hb xb n (n1+0) i_ j_ p_ c_ ss x_ _ (aC 1) (aC 0) (aC 4) (by omega) (by omega))<|aa 2 [] λ _=>RN.em (xh (x_.getD i_ mw) (x_.getD j_ mw)) 41 (λ P0=>?_) λ P0=>?_
    ·refine aq 19 [.own 0,.own 1,.nw,.own 1,.own 0] [bF (p_+1)] λ _=>RN.ct [1,2,3,4] [] (JN S wp bb hb xb n i_ j_ (p_+1) c_ ss W_ b_ h_ x_ _ hV hS.up hn R2 (by omega) (by omega) (by omega)) ?_
     rintro _ ⟨WL,b2_,L_,Zb⟩ ⟨Ug,XL⟩
     refine aq 8 [.nw] [bF ((j_:Int)+1)] λ _=>bZ 5 (congrArg (λ v_=>(vI v_:Value)) (show (j_:Int)+1=((j_+1:Nat):Int) by omega)) ?_
     refine Yw (j_+1,p_+1,WL,b2_,L_,Zb,fR S i_ j_ W_) [4,0,1,2,3] [] ?_
     try dsimp only
     refine⟨⟨by omega,by omega,by omega,by rw[US,G1 (by omega)],?_,?_⟩,by omega⟩
     ·exact Ug
     ·intro e_;dsimp only at XL;rcases XL with ⟨Th,Tz⟩|Th
      ·rw[Tz];exact Pw (by omega)
      ·exfalso;omega
    ·refine aq 9 [.nw] [bF ((j_:Int)+1)] λ _=>bZ 5 (congrArg (λ v_=>(vI v_:Value)) (show (j_:Int)+1=((j_+1:Nat):Int) by omega)) ?_
     refine Yw (j_+1,p_,c_,b_,h_,x_,fR S i_ j_ W_) [0,1,2,3,4] [] ?_
     try dsimp only
     refine⟨⟨by omega,by omega,by omega,by rw[US,G1 (by omega)],?_,?_⟩,by omega⟩
     ·rw[AU R2 (by omega) (by omega) P0];exact R2
     ·intro e_;rw[AU R2 (by omega) (by omega) P0];exact Pw e_
   ·refine aq 11 [.nw] [bF ((i_:Int)+1)] λ _=>bZ 24 (congrArg (λ v_=>(vI v_:Value)) (show (i_:Int)+1=((i_+1:Nat):Int) by omega)) ?_
    refine So (i_+1,p_,c_,b_,h_,x_,W_) [0,1,2,3,4] [] ?_
    try dsimp only
    refine⟨⟨by omega,by omega,by omega,?_,R2,?_⟩,by omega⟩
    ·rw[VN,Mm (by omega),US,show n-j_=0 by omega];rfl
    ·intro e_;rw[Pw (by omega)];exact XG (by omega)
  ·refine aa 17 [.own 0,.own 1] λ _=>RN.em (QE=Si) 62 (λ PN=>?_) λ PN=>?_
   ·refine aa 1 [] λ _=>RN.ret [] [1,2,3,4] [] (v:=.tuple #[]) (H':=(ap [(wp,.lit (Setup.l S++[vS bb 0 n n,vS hb 0 n n,vS xb 0 n n,vI RT,vI QE,vI ss]) 156 (0,0)),(bb,.rows 5 n (aD dk Uw) 68 (0,0)),(hb,.rows 1 n (bk PY) 3 (0,0)),(xb,.rows 4 n (aD fj TA) 25 (0,0))] [])) ?_
    have Th:=XG (by assumption)
    have Tz:mt S 0 S.nb U5=U5:=by rw[<- hn,VN,show n-i_=0 by omega];exact Th
    exact⟨(RT,QE,Uw,PY,TA),rfl,by rw[R0,wS Tz,<- Th];exact R3,by constructor <;> (try dsimp only) <;> omega,by constructor <;> (try dsimp only) <;> omega⟩
   ·refine aq 8 [.nw] [bF ((r_:Int)+1)] λ _=>bZ 12 (congrArg (λ v_=>(vI v_:Value)) (show (r_:Int)+1=((r_+1:Nat):Int) by omega)) ?_
    refine PK (r_+1,RT,QE,Uw,PY,TA,U4) [0,1,2,3,4] [] ?_
    try dsimp only
    refine⟨⟨by omega,by omega,by omega,?_,R3⟩,by omega⟩
    rw[R0,Mn (by omega),<- hn,VN,show n-i_=0 by omega];rfl
 ·refine aa 5 [] λ _=>RN.ret [] [1,2,3,4] [] (v:=.tuple #[]) (H':=(ap [(wp,.lit (Setup.l S++[vS bb 0 n n,vS hb 0 n n,vS xb 0 n n,vI Vc,vI Si,vI ss]) 156 (0,0)),(bb,.rows 5 n (aD dk U2) 68 (0,0)),(hb,.rows 1 n (bk U1) 3 (0,0)),(xb,.rows 4 n (aD fj Uz) 25 (0,0))] [])) ?_
  exact⟨(Vc,Si,U2,U1,Uz),rfl,by rw[R0,show S.rounds.toNat-r_=0 by omega];exact S0,by constructor <;> (try dsimp only) <;> omega,by constructor <;> (try dsimp only) <;> omega⟩
end Go.Proofs.YthoijjeddhfcnaaGreatDoor
