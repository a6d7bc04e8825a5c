import Derived.Test.YthoijjeddhfcnaaGreatW23
set_option maxHeartbeats 4000000
set_option maxRecDepth 100000
set_option linter.unusedSimpArgs false
set_option linter.unusedVariables false
namespace Go.Proofs.YthoijjeddhfcnaaGreat
open Go.RowKit
theorem con_far {S:Setup} {i j:Nat} {W:MemS} {bl:List Mot} {hl:List Int} {xl:List Bx} (hW:WR S W bl hl xl) (hi:i < S.nb) (hj:j < S.nb) (h:¬ ovl (xl.getD i dBx) (xl.getD j dBx)):conG S i j W=W:=by
 rw [hW.x i hi,hW.x j hj] at h
 refine con_no ?_
 show (collideS _ _ _ _).2=false
 unfold collideS
 rw [if_neg h]
theorem con_no2 {S:Setup} {i j:Nat} {W:MemS} {bl:List Mot} {hl:List Int} {xl:List Bx} (hW:WR S W bl hl xl) (hi:i < S.nb) (hj:j < S.nb) (h:¬ (collideS (S.body i).sh ⟨(bl.getD i dMot).px,(bl.getD i dMot).py⟩ (S.body j).sh ⟨(bl.getD j dMot).px,(bl.getD j dMot).py⟩).2=true):conG S i j W=W:=by
 rw [hW.b i hi,hW.b j hj] at h
 exact con_no (Bool.eq_false_iff.2 h)
theorem frc_as {S:Setup} {i j:Nat} {W:MemS} {bl:List Mot} {hl:List Int} {xl:List Bx} (hW:WR S W bl hl xl) (hi:i < S.nb) (hj:j < S.nb):(asideG S i j W ↔ ¬ ovl (hullB (xl.getD i dBx) (bounds (S.body i).sh (vadd ⟨(bl.getD i dMot).px,(bl.getD i dMot).py⟩ ⟨(bl.getD i dMot).vx,(bl.getD i dMot).vy⟩))) (xl.getD j dBx)) /\ earG S i j W=earlS (S.body i).sh ⟨(bl.getD i dMot).px,(bl.getD i dMot).py⟩ ⟨(bl.getD i dMot).vx,(bl.getD i dMot).vy⟩ (S.body j).sh ⟨(bl.getD j dMot).px,(bl.getD j dMot).py⟩ ⟨0,0⟩:=by
 rw [hW.x i hi,hW.x j hj,hW.b i hi,hW.b j hj]
 exact ⟨Iff.rfl,rfl⟩
def noO (S:Setup) (W:MemS):Prop:=∀ i j:Nat,i < j -> j < S.nb -> ¬ ovl (bounds (S.body i).sh ⟨(motM S W i).px,(motM S W i).py⟩) (bounds (S.body j).sh ⟨(motM S W j).px,(motM S W j).py⟩)
theorem no_ovl {S:Setup} {i j:Nat} {W:MemS} {bl:List Mot} {hl:List Int} {xl:List Bx} (hW:WR S W bl hl xl) (hn:noO S W) (hij:i < j) (hj:j < S.nb):¬ ovl (xl.getD i dBx) (xl.getD j dBx):=by
 rw [hW.x i (by omega),hW.x j hj]
 exact hn i j hij hj
def skE (S:Setup) (i:Nat):Nat -> Nat -> MemS -> Int
 | _,0,_=>0
 | j,k+1,M=>(if i=j then 0 else if asideG S i j M then 1 else 0)+skE S i (j+1) k M
def msE (S:Setup):Nat -> Nat -> MemS -> Int
 | _,0,_=>0
 | i,k+1,M=>(if 0 < (S.body i).mot.inv then skE S i 0 S.nb M else 0)+msE S (i+1) k (mvG S i M)
theorem skE_go {S:Setup} {i j n:Nat} (hj:j < n) (M:MemS):skE S i j (n - j) M=(if i=j then 0 else if asideG S i j M then 1 else 0)+skE S i (j+1) (n - (j+1)) M:=by
 rw [show n - j=(n - (j+1))+1 by omega];rfl
theorem msE_go {S:Setup} {i n:Nat} (hi:i < n) (M:MemS):msE S i (n - i) M=(if 0 < (S.body i).mot.inv then skE S i 0 S.nb M else 0)+msE S (i+1) (n - (i+1)) (mvG S i M):=by
 rw [show n - i=(n - (i+1))+1 by omega];rfl
def ColS (S:Setup) (N:MemS) (p q s:Int):Prop:=(noO S N -> p=0 /\ q=0) /\ s=msE S 0 S.nb (rndG S S.rounds.toNat N)
theorem inn_go {S:Setup} {i j n:Nat} (hj:j < n) (M:MemS):innG S i j (n - j) M=innG S i ((j+1:Nat):Int) (n - (j+1)) (conG S i j M):=by
 rw [show n - j=(n - (j+1))+1 by omega];rfl
theorem out_go {S:Setup} {i n:Nat} (hi:i < n) (M:MemS):outG S i (n - i) M=outG S ((i+1:Nat):Int) (n - (i+1)) (innG S i ((i+1:Nat):Int) (n - (i+1)) M):=by
 rw [show n - i=(n - (i+1))+1 by omega];rfl
theorem rnd_go {S:Setup} {r R:Nat} (hr:r < R) (M:MemS):rndG S (R - r) M=rndG S (R - (r+1)) (outG S 0 S.nb M):=by
 rw [show R - r=(R - (r+1))+1 by omega];rfl
structure WRt (S:Setup) (M:MemS) (bl:List Mot) (hl:List Int) (xl:List Bx) (j:Nat):Prop where
 lb:bl.length=S.nb
 lh:hl.length=S.nb
 lx:xl.length=S.nb
 b:∀ k,k < j -> bl.getD k dMot=motM S M k
 h:∀ k,k < j -> hl.getD k 0=M.get (bodyAt S k+6)
 x:∀ k,k < j -> xl.getD k dBx=bounds (S.body k).sh ⟨(motM S M k).px,(motM S M k).py⟩
theorem WRt.start (S:Setup) (M:MemS):WRt S M (List.replicate S.nb dMot) (List.replicate S.nb 0) (List.replicate S.nb dBx) 0 :=
 ⟨by simp,by simp,by simp,λ k h=>by omega,λ k h=>by omega,λ k h=>by omega⟩
theorem WRt.step {S:Setup} {M:MemS} {bl:List Mot} {hl:List Int} {xl:List Bx} {j:Nat} (h:WRt S M bl hl xl j) (hj:j < S.nb):WRt S M (bl.set j (motM S M j)) (hl.set j (M.get (bodyAt S j+6))) (xl.set j (bounds (S.body j).sh ⟨(motM S M j).px,(motM S M j).py⟩)) (j+1) where
 lb:=by rw [List.length_set];exact h.lb
 lh:=by rw [List.length_set];exact h.lh
 lx:=by rw [List.length_set];exact h.lx
 b:=λ k hk=>by
  rw [getD_set (by rw [h.lb];exact hj)]
  split
  ·next e=>rw [e]
  ·exact h.b k (by omega)
 h:=λ k hk=>by
  rw [getD_set (by rw [h.lh];exact hj)]
  split
  ·next e=>rw [e]
  ·exact h.h k (by omega)
 x:=λ k hk=>by
  rw [getD_set (by rw [h.lx];exact hj)]
  split
  ·next e=>rw [e]
  ·exact h.x k (by omega)
theorem WRt.done {S:Setup} {M:MemS} {bl:List Mot} {hl:List Int} {xl:List Bx} (h:WRt S M bl hl xl S.nb) (hl_:(M.cs.length:Int)=sizeOf S):WR S M bl hl xl:=⟨hl_,h.lb,h.lh,h.lx,h.b,h.h,h.x⟩
theorem contact_run (S:Setup) (wp bb hb xb n i j:Nat) (sp sc ss:Int) (W:MemS) (bl:List Mot) (hl:List Int) (xl:List Bx) (F:HL) (hS:SetIn F S) (hV:SetV S) (hn:n=S.nb) (hW:WR S W bl hl xl) (hij:i < j) (hj:j < n) (hbl:bl.length=n) (hhl:hl.length=n) (hxl:xl.length=n) (hsc:0 <= sc /\ sc <= 1000000):Sp Tryz.prog 42 #[vP wp 0,vI (i:Int),vI (j:Int)] [(wp,.lit (Setup.l S++[vS bb 0 n n,vS hb 0 n n,vS xb 0 n n,vI sp,vI sc,vI ss]) 92 (0,0)),(bb,.rows 5 n (rowE motE bl) 37 (0,0)),(hb,.rows 1 n (irow hl) 3 (0,0)),(xb,.rows 4 n (rowE bxE xl) 25 (0,0))] F (λ _ H'=>∃ x:Int × List Mot × List Int × List Bx,H'=ap [(wp,.lit (Setup.l S++[vS bb 0 n n,vS hb 0 n n,vS xb 0 n n,vI sp,vI x.1,vI ss]) 92 (0,0)),(bb,.rows 5 n (rowE motE x.2.1) 37 (0,0)),(hb,.rows 1 n (irow x.2.2.1) 3 (0,0)),(xb,.rows 4 n (rowE bxE x.2.2.2) 25 (0,0))] [] /\ (WR S (conG S i j W) x.2.1 x.2.2.1 x.2.2.2 /\ ((x.1=sc /\ conG S i j W=W) \/ x.1=sc+1))):=by
 have hroom:=hS.room
 have hnbS:=hS.nb
 refine Sp.run Tryz.func42 rfl (mc hS.blk mn) (A:=[(wp,.lit (Setup.l S++[vS bb 0 n n,vS hb 0 n n,vS xb 0 n n,vI sp,vI sc,vI ss]) 92 (0,0)),(bb,.rows 5 n (rowE motE bl) 37 (0,0)),(hb,.rows 1 n (irow hl) 3 (0,0)),(xb,.rows 4 n (rowE bxE xl) 25 (0,0))]) (Ts:=[]) rfl λ w0=>?_
 refine RN.go 1 [] λ _=>RN.draw [16,17] [0,1,2,3]<|RD.goP [0,1,2,3] [0,4,7,11,1,8,2,9,3,10,5,12,6,13] [.own 0,.ro 0,.ix i,.ix j,.row 1 i 0,.row 1 i 1,.row 1 i 2,.row 1 i 3,.row 1 i 4,.rorow 1 j 0,.rorow 1 j 1,.rorow 1 j 2,.rorow 1 j 3,.rorow 1 j 4] [((0+j * 5)+4)=j * 5+4 /\ j < n,((0+j * 5)+3)=j * 5+3 /\ j < n,((0+j * 5)+2)=j * 5+2 /\ j < n,((0+j * 5)+1)=j * 5+1 /\ j < n,(0+j * 5)=j * 5+0 /\ j < n,((0+i * 5)+4)=i * 5+4 /\ i < n,((0+i * 5)+3)=i * 5+3 /\ i < n,((0+i * 5)+2)=i * 5+2 /\ i < n,((0+i * 5)+1)=i * 5+1 /\ i < n,(0+i * 5)=i * 5+0 /\ i < n,(j:Int)=((j:Nat):Int) /\ j < n,(i:Int)=((i:Nat):Int) /\ i < n]<|RD.haveK (σ:=Nat × Nat) (λ ⟨n3,n4⟩=>⟨[(0,vP wp 0),(1,vI (i:Int)),(2,vI (j:Int)),(6,vP (n3+0) 0),(7,vP (n4+0) 0)],[((n4+0),.lit [vI ((bl.getD j dMot).px),vI ((bl.getD j dMot).py),vI ((bl.getD j dMot).vx),vI ((bl.getD j dMot).vy),vI ((bl.getD j dMot).inv)] 37 (0,0)),((n3+0),.lit [vI ((bl.getD i dMot).px),vI ((bl.getD i dMot).py),vI ((bl.getD i dMot).vx),vI ((bl.getD i dMot).vy),vI ((bl.getD i dMot).inv)] 37 (0,0)),(wp,.lit (Setup.l S++[vS bb 0 n n,vS hb 0 n n,vS xb 0 n n,vI sp,vI sc,vI ss]) 92 (0,0)),(bb,.rows 5 n (rowE motE bl) 37 (0,0)),(hb,.rows 1 n (irow hl) 3 (0,0)),(xb,.rows 4 n (rowE bxE xl) 25 (0,0))],[],True,0⟩) ?_ ?_
 ·rintro ⟨n3,n4⟩
  refine RN.go 2 [] λ _=>RN.draw [27] [0,1,2,3,4,5]<|RD.goP [0,1,2,3,4,5] [0,5,9,11,16,20,1,10,12,21,2,13,3,14,4,15,6,17,7,18,8,19] [.own 1,.own 1,.own 0,.own 0,.own 2,.own 2,.ix i,.ix j,.rorow 0 (S.bo+i) 0,.rorow 0 (S.bo+i) 1,.rorow 0 (S.bo+j) 0,.rorow 0 (S.bo+j) 1] [((S.bo * 9+j * 9)+1)=(S.bo+j) * 9+1 /\ (S.bo+j) < S.bR,(S.bo * 9+j * 9)=(S.bo+j) * 9+0 /\ (S.bo+j) < S.bR,((S.bo * 9+i * 9)+1)=(S.bo+i) * 9+1 /\ (S.bo+i) < S.bR,(S.bo * 9+i * 9)=(S.bo+i) * 9+0 /\ (S.bo+i) < S.bR,(j:Int)=((j:Nat):Int) /\ j < S.nb,(i:Int)=((i:Nat):Int) /\ i < S.nb]<|RD.cp [0,1,2,3,4,5] 22 (λ X_=>(collide_any (S.bods.getD (S.bo+i) dB).sh (⟨(bl.getD i dMot).px,(bl.getD i dMot).py⟩:V2) (S.bods.getD (S.bo+j) dB).sh (⟨(bl.getD j dMot).px,(bl.getD j dMot).py⟩:V2) _ ((hS.shp i (by omega)).up.up) ((hS.shp j (by omega)).up.up)))<|RD.go [0,1,2,3,4,5] [23,24,25] []<|RD.one 26 (RDO.ev [] [] λ n6=>?_)
  refine RD.one 27 (RDO.ev [1,2,3,4,5,6] [.own 0,.own 0,.own 0] λ _=>?_)
  refine RD.go [1,2,3,4,5,6] [28] []<|RD.fin<|RN.go 8 [] λ _=>RN.eB ((collideS (S.bods.getD (S.bo+i) dB).sh (⟨(bl.getD i dMot).px,(bl.getD i dMot).py⟩:V2) (S.bods.getD (S.bo+j) dB).sh (⟨(bl.getD j dMot).px,(bl.getD j dMot).py⟩:V2)).2) 51 (λ h7=>?_) λ h7=>?_
  ·refine RN.goP 18 [.own 3,.nw,.own 3] [I64 (sc+1)] λ _=>RN.draw [12,13] [0,3,4,5,6]<|RD.go [0,3,4,5,6] [0,1,2,3,4,5,6,7] (ow 2 5++ow 1 5++[.own 0,.own 0,.own 0,.own 3])<|RD.cp [0,3,4,5,6] 8 (λ X_=>(resolve_any (bl.getD i dMot) (bl.getD j dMot) (collideS (S.bods.getD (S.bo+i) dB).sh (⟨(bl.getD i dMot).px,(bl.getD i dMot).py⟩:V2) (S.bods.getD (S.bo+j) dB).sh (⟨(bl.getD j dMot).px,(bl.getD j dMot).py⟩:V2)).1 S.rest _))<|RD.go [0,3,4,5,6] [9,10,11] []<|RD.one 12 (RDO.ev [0,3,4,5,6] (ow 2 5) λ _=>?_)
   refine RD.one 13 (RDO.ev [0,3,4,5,6] (ow 1 5) λ _=>?_)
   refine RD.fin<|RN.go 6 (ow 2 5) λ _=>RN.ct [4,6] [] (update_ap S wp bb hb xb n i sp (sc+1) ss bl xl ((resolveS (bl.getD i dMot) (bl.getD j dMot) (collideS (S.bods.getD (S.bo+i) dB).sh (⟨(bl.getD i dMot).px,(bl.getD i dMot).py⟩:V2) (S.bods.getD (S.bo+j) dB).sh (⟨(bl.getD j dMot).px,(bl.getD j dMot).py⟩:V2)).1 S.rest).1) _ (in_ap 3) hS.up hn (by omega) (by first | exact hbl | (rw [List.length_set];exact hbl)) (by first | exact hxl | (rw [List.length_set];exact hxl))) ?_
   rintro _ ⟨⟩ _
   refine RN.go 7 (ow 3 5) λ _=>RN.ct [0,1] [] (update_ap S wp bb hb xb n j sp (sc+1) ss (bl.set i ((resolveS (bl.getD i dMot) (bl.getD j dMot) (collideS (S.bods.getD (S.bo+i) dB).sh (⟨(bl.getD i dMot).px,(bl.getD i dMot).py⟩:V2) (S.bods.getD (S.bo+j) dB).sh (⟨(bl.getD j dMot).px,(bl.getD j dMot).py⟩:V2)).1 S.rest).1)) (xl.set i (bounds (S.body i).sh ⟨((resolveS (bl.getD i dMot) (bl.getD j dMot) (collideS (S.bods.getD (S.bo+i) dB).sh (⟨(bl.getD i dMot).px,(bl.getD i dMot).py⟩:V2) (S.bods.getD (S.bo+j) dB).sh (⟨(bl.getD j dMot).px,(bl.getD j dMot).py⟩:V2)).1 S.rest).1).px,((resolveS (bl.getD i dMot) (bl.getD j dMot) (collideS (S.bods.getD (S.bo+i) dB).sh (⟨(bl.getD i dMot).px,(bl.getD i dMot).py⟩:V2) (S.bods.getD (S.bo+j) dB).sh (⟨(bl.getD j dMot).px,(bl.getD j dMot).py⟩:V2)).1 S.rest).1).py⟩)) ((resolveS (bl.getD i dMot) (bl.getD j dMot) (collideS (S.bods.getD (S.bo+i) dB).sh (⟨(bl.getD i dMot).px,(bl.getD i dMot).py⟩:V2) (S.bods.getD (S.bo+j) dB).sh (⟨(bl.getD j dMot).px,(bl.getD j dMot).py⟩:V2)).1 S.rest).2) _ (in_ap 3) hS.up hn (by omega) (by first | exact hbl | (rw [List.length_set];exact hbl)) (by first | exact hxl | (rw [List.length_set];exact hxl))) ?_
   rintro _ ⟨⟩ _
   refine RN.go 2 [] λ _=>RN.draw [15,17] [0,1,2,3,4,5]<|RD.goP [0,1,2,3,4,5] [0,4,5,9,10,12,1,6,11,13,2,7,3,8,14] [.nw,.nw,.own 5,.own 5,.ix i] [(i:Int)=((i:Nat):Int) /\ i < n,I64 ((i:Int)+1),I64 ((j:Int)+1)]<|RD.one 15 (RDO.evP [0,1,2,3,4,5] [.row 6 i 0] [(0+i * 1)=i * 1+0 /\ i < n] λ _=>?_)
   refine RD.goP [0,1,2,3,4,5] [16] [.ix j] [(j:Int)=((j:Nat):Int) /\ j < n]<|RD.one 17 (RDO.evP [0,1,2,3,4,5] [.row 6 j 0] [(0+j * 1)=j * 1+0 /\ j < n] λ _=>?_)
   refine RD.fin<|RN.bv 6 (congrArg (λ v_=>(.rows 1 n v_ 3 (0,0):Blk)) (show (updG (updG (irow hl) i 0 (vI ((j:Int)+1))) j 0 (vI ((i:Int)+1)))=(irow ((hl.set i ((j:Int)+1)).set j ((i:Int)+1))) from (by rw [irow_set (by omega),irow_set (by rw [List.length_set];omega)])))<|RN.ret [] [5,0,6,1] [] (v:=.tuple #[]) (H':=(ap [(wp,.lit (Setup.l S++[vS bb 0 n n,vS hb 0 n n,vS xb 0 n n,vI sp,vI (sc+1),vI ss]) 92 (0,0)),(bb,.rows 5 n (rowE motE ((bl.set i ((resolveS (bl.getD i dMot) (bl.getD j dMot) (collideS (S.bods.getD (S.bo+i) dB).sh (⟨(bl.getD i dMot).px,(bl.getD i dMot).py⟩:V2) (S.bods.getD (S.bo+j) dB).sh (⟨(bl.getD j dMot).px,(bl.getD j dMot).py⟩:V2)).1 S.rest).1)).set j ((resolveS (bl.getD i dMot) (bl.getD j dMot) (collideS (S.bods.getD (S.bo+i) dB).sh (⟨(bl.getD i dMot).px,(bl.getD i dMot).py⟩:V2) (S.bods.getD (S.bo+j) dB).sh (⟨(bl.getD j dMot).px,(bl.getD j dMot).py⟩:V2)).1 S.rest).2))) 37 (0,0)),(hb,.rows 1 n (irow ((hl.set i ((j:Int)+1)).set j ((i:Int)+1))) 3 (0,0)),(xb,.rows 4 n (rowE bxE ((xl.set i (bounds (S.body i).sh ⟨((resolveS (bl.getD i dMot) (bl.getD j dMot) (collideS (S.bods.getD (S.bo+i) dB).sh (⟨(bl.getD i dMot).px,(bl.getD i dMot).py⟩:V2) (S.bods.getD (S.bo+j) dB).sh (⟨(bl.getD j dMot).px,(bl.getD j dMot).py⟩:V2)).1 S.rest).1).px,((resolveS (bl.getD i dMot) (bl.getD j dMot) (collideS (S.bods.getD (S.bo+i) dB).sh (⟨(bl.getD i dMot).px,(bl.getD i dMot).py⟩:V2) (S.bods.getD (S.bo+j) dB).sh (⟨(bl.getD j dMot).px,(bl.getD j dMot).py⟩:V2)).1 S.rest).1).py⟩)).set j (bounds (S.body j).sh ⟨((resolveS (bl.getD i dMot) (bl.getD j dMot) (collideS (S.bods.getD (S.bo+i) dB).sh (⟨(bl.getD i dMot).px,(bl.getD i dMot).py⟩:V2) (S.bods.getD (S.bo+j) dB).sh (⟨(bl.getD j dMot).px,(bl.getD j dMot).py⟩:V2)).1 S.rest).2).px,((resolveS (bl.getD i dMot) (bl.getD j dMot) (collideS (S.bods.getD (S.bo+i) dB).sh (⟨(bl.getD i dMot).px,(bl.getD i dMot).py⟩:V2) (S.bods.getD (S.bo+j) dB).sh (⟨(bl.getD j dMot).px,(bl.getD j dMot).py⟩:V2)).1 S.rest).2).py⟩))) 25 (0,0))] [])) ?_
   exact ⟨(sc+1,((bl.set i ((resolveS (bl.getD i dMot) (bl.getD j dMot) (collideS (S.bods.getD (S.bo+i) dB).sh (⟨(bl.getD i dMot).px,(bl.getD i dMot).py⟩:V2) (S.bods.getD (S.bo+j) dB).sh (⟨(bl.getD j dMot).px,(bl.getD j dMot).py⟩:V2)).1 S.rest).1)).set j ((resolveS (bl.getD i dMot) (bl.getD j dMot) (collideS (S.bods.getD (S.bo+i) dB).sh (⟨(bl.getD i dMot).px,(bl.getD i dMot).py⟩:V2) (S.bods.getD (S.bo+j) dB).sh (⟨(bl.getD j dMot).px,(bl.getD j dMot).py⟩:V2)).1 S.rest).2)),((hl.set i ((j:Int)+1)).set j ((i:Int)+1)),((xl.set i (bounds (S.body i).sh ⟨((resolveS (bl.getD i dMot) (bl.getD j dMot) (collideS (S.bods.getD (S.bo+i) dB).sh (⟨(bl.getD i dMot).px,(bl.getD i dMot).py⟩:V2) (S.bods.getD (S.bo+j) dB).sh (⟨(bl.getD j dMot).px,(bl.getD j dMot).py⟩:V2)).1 S.rest).1).px,((resolveS (bl.getD i dMot) (bl.getD j dMot) (collideS (S.bods.getD (S.bo+i) dB).sh (⟨(bl.getD i dMot).px,(bl.getD i dMot).py⟩:V2) (S.bods.getD (S.bo+j) dB).sh (⟨(bl.getD j dMot).px,(bl.getD j dMot).py⟩:V2)).1 S.rest).1).py⟩)).set j (bounds (S.body j).sh ⟨((resolveS (bl.getD i dMot) (bl.getD j dMot) (collideS (S.bods.getD (S.bo+i) dB).sh (⟨(bl.getD i dMot).px,(bl.getD i dMot).py⟩:V2) (S.bods.getD (S.bo+j) dB).sh (⟨(bl.getD j dMot).px,(bl.getD j dMot).py⟩:V2)).1 S.rest).2).px,((resolveS (bl.getD i dMot) (bl.getD j dMot) (collideS (S.bods.getD (S.bo+i) dB).sh (⟨(bl.getD i dMot).px,(bl.getD i dMot).py⟩:V2) (S.bods.getD (S.bo+j) dB).sh (⟨(bl.getD j dMot).px,(bl.getD j dMot).py⟩:V2)).1 S.rest).2).py⟩))),rfl,hW.con hV hij (by omega) rfl rfl (by first | assumption | simpa using ‹_›) rfl,.inr rfl⟩
  ·refine RN.go 1 [] λ _=>RN.ret [] [3,4,5,6] [] (v:=.tuple #[]) (H':=(ap [(wp,.lit (Setup.l S++[vS bb 0 n n,vS hb 0 n n,vS xb 0 n n,vI sp,vI sc,vI ss]) 92 (0,0)),(bb,.rows 5 n (rowE motE bl) 37 (0,0)),(hb,.rows 1 n (irow hl) 3 (0,0)),(xb,.rows 4 n (rowE bxE xl) 25 (0,0))] [])) ?_
   have e_:=con_no2 hW (by omega) (by omega) h7
   exact ⟨(sc,bl,hl,xl),rfl,by rw [e_];exact hW,.inl ⟨rfl,e_⟩⟩
 ·intro key8
  refine RD.two 14 15 ?_ ?_
  ·refine RDO.ev [] [] λ n9=>RD.one 15 (RDO.ev [] [] λ n10=>?_)
   refine RD.one 16 (RDO.ev [2,3,4,5] (ow 1 5) λ _=>?_)
   refine RD.one 17 (RDO.ev [2,3,4,5] (ow 0 5) λ _=>?_)
   exact key8 ⟨n9,n10⟩ [0,1,2,3,4,5] []
  ·refine RDO.ev [] [] λ n11=>RD.one 14 (RDO.ev [] [] λ n12=>?_)
   refine RD.one 16 (RDO.ev [2,3,4,5] (ow 0 5) λ _=>?_)
   refine RD.one 17 (RDO.ev [2,3,4,5] (ow 1 5) λ _=>?_)
   exact key8 ⟨n12,n11⟩ [1,0,2,3,4,5] []
theorem cand_any (S:Setup) (wp bb hb xb n q i j:Nat) (sp sc ss:Int) (xl:List Bx) (F:HL) (hw:(wp,.lit (Setup.l S++[vS bb 0 n n,vS hb 0 n n,vS xb 0 n n,vI sp,vI sc,vI ss]) 92 (0,0)) ∈ F) (hq:(q,.lit [vP wp 0] 87 (0,0)) ∈ F) (hx:(xb,.rows 4 n (rowE bxE xl) 25 (0,0)) ∈ F) (hi:i < n) (hj:j < n):Sp Tryz.prog 40 #[vI (i:Int),vI (j:Int),vP q 0] [] F (λ u H'=>u=.bool (decide (ovl (xl.getD i dBx) (xl.getD j dBx))) /\ H'=[]):=by
 refine Sp.run Tryz.func40 rfl (mc hw (mc hq (mc hx mn))) (A:=[]) (Ts:=[]) rfl λ w0=>?_
 refine RN.go 6 [] λ _=>RN.draw [] []<|RD.goP [] [0,4,7,11,1,8,2,9,3,10,5,12,6,13] [.ro 1,.ro 1,.ro 0,.ro 0,.ix i,.ix j,.rorow 2 i 0,.rorow 2 i 1,.rorow 2 i 2,.rorow 2 i 3,.rorow 2 j 0,.rorow 2 j 1,.rorow 2 j 2,.rorow 2 j 3] [((0+j * 4)+3)=j * 4+3 /\ j < n,((0+j * 4)+2)=j * 4+2 /\ j < n,((0+j * 4)+1)=j * 4+1 /\ j < n,(0+j * 4)=j * 4+0 /\ j < n,((0+i * 4)+3)=i * 4+3 /\ i < n,((0+i * 4)+2)=i * 4+2 /\ i < n,((0+i * 4)+1)=i * 4+1 /\ i < n,(0+i * 4)=i * 4+0 /\ i < n,(j:Int)=((j:Nat):Int) /\ j < n,(i:Int)=((i:Nat):Int) /\ i < n]<|RD.cp [] 14 (λ X_=>(ovl_any (xl.getD i dBx) (xl.getD j dBx)  _))<|RD.go [] [15] []<|RD.fin<|RN.go 1 [] λ _=>?_
 exact RN.ret [] [] [] ⟨rfl,rfl⟩
theorem asid_any (S:Setup) (wp bb hb xb n q q1 j:Nat) (sp sc ss:Int) (h0:Bx) (xl:List Bx) (F:HL) (hw:(wp,.lit (Setup.l S++[vS bb 0 n n,vS hb 0 n n,vS xb 0 n n,vI sp,vI sc,vI ss]) 92 (0,0)) ∈ F) (hq1:(q1,.lit [vI h0.x0,vI h0.y0,vI h0.x1,vI h0.y1] 25 (0,0)) ∈ F) (hq:(q,.lit [vP wp 0] 87 (0,0)) ∈ F) (hx:(xb,.rows 4 n (rowE bxE xl) 25 (0,0)) ∈ F) (hj:j < n):Sp Tryz.prog 67 #[vI (j:Int),vP q1 0,vP q 0] [] F (λ u H'=>u=.bool (!decide (ovl h0 (xl.getD j dBx))) /\ H'=[]):=by
 refine Sp.run Tryz.func67 rfl (mc hw (mc hq1 (mc hq (mc hx mn)))) (A:=[]) (Ts:=[]) rfl λ w0=>?_
 refine RN.go 6 [] λ _=>RN.draw [] []<|RD.goP [] [0,1,5,2,3,4,6,7] [.ro 1,.ro 1,.ro 1,.ro 1,.ro 2,.ro 0,.ix j,.rorow 3 j 0,.rorow 3 j 1,.rorow 3 j 2,.rorow 3 j 3] [((0+j * 4)+3)=j * 4+3 /\ j < n,((0+j * 4)+2)=j * 4+2 /\ j < n,((0+j * 4)+1)=j * 4+1 /\ j < n,(0+j * 4)=j * 4+0 /\ j < n,(j:Int)=((j:Nat):Int) /\ j < n]<|RD.cp [] 8 (λ X_=>(ovl_any h0 (xl.getD j dBx)  _))<|RD.go [] [9,10] []<|RD.fin<|RN.go 1 [] λ _=>?_
 exact RN.ret [] [] [] ⟨rfl,rfl⟩
theorem move_run (S:Setup) (wp bb hb xb n i:Nat) (sp sc ss f:Int) (bl:List Mot) (xl:List Bx) (F:HL) (hS:SetIn F S) (hn:n=S.nb) (hi:i < n) (hbl:bl.length=n) (hxl:xl.length=n):Sp Tryz.prog 43 #[vP wp 0,vI (i:Int),vI f] [(wp,.lit (Setup.l S++[vS bb 0 n n,vS hb 0 n n,vS xb 0 n n,vI sp,vI sc,vI ss]) 92 (0,0)),(bb,.rows 5 n (rowE motE bl) 37 (0,0)),(xb,.rows 4 n (rowE bxE xl) 25 (0,0))] F (λ _ H'=>H'=[(wp,.lit (Setup.l S++[vS bb 0 n n,vS hb 0 n n,vS xb 0 n n,vI sp,vI sc,vI ss]) 92 (0,0)),(bb,.rows 5 n (rowE motE (bl.set i (mvMot S (bl.getD i dMot) f))) 37 (0,0)),(xb,.rows 4 n (rowE bxE (xl.set i (bounds (S.body i).sh ⟨(mvMot S (bl.getD i dMot) f).px,(mvMot S (bl.getD i dMot) f).py⟩))) 25 (0,0))]):=by
 have hroom:=hS.room
 have hnbS:=hS.nb
 refine Sp.run Tryz.func43 rfl (mc hS.blk mn) (A:=[(wp,.lit (Setup.l S++[vS bb 0 n n,vS hb 0 n n,vS xb 0 n n,vI sp,vI sc,vI ss]) 92 (0,0)),(bb,.rows 5 n (rowE motE bl) 37 (0,0)),(xb,.rows 4 n (rowE bxE xl) 25 (0,0))]) (Ts:=[]) rfl λ w0=>?_
 refine RN.go 1 [] λ _=>RN.draw [14,15] [0,1,2]<|RD.goP [0,1,2] [0,4,7,1,8,2,9,3,10,5,11,6] [.own 0,.ix i,.ro 0,.ro 0,.ro 0,.ro 0,.row 1 i 0,.row 1 i 1,.row 1 i 2,.row 1 i 3,.row 1 i 4] [((0+i * 5)+4)=i * 5+4 /\ i < n,((0+i * 5)+3)=i * 5+3 /\ i < n,((0+i * 5)+2)=i * 5+2 /\ i < n,((0+i * 5)+1)=i * 5+1 /\ i < n,(0+i * 5)=i * 5+0 /\ i < n,(i:Int)=((i:Nat):Int) /\ i < n]<|RD.haveK (σ:=Nat × Nat) (λ ⟨n3,n4⟩=>⟨[(0,vP wp 0),(1,vI (i:Int)),(2,vI f),(6,vP (n3+0) 0),(7,vP (n4+0) 0)],[((n4+0),.lit [vI S.box.x0,vI S.box.y0,vI S.box.x1,vI S.box.y1] 25 (0,0)),((n3+0),.lit [vI ((bl.getD i dMot).px),vI ((bl.getD i dMot).py),vI ((bl.getD i dMot).vx),vI ((bl.getD i dMot).vy),vI ((bl.getD i dMot).inv)] 37 (0,0)),(wp,.lit (Setup.l S++[vS bb 0 n n,vS hb 0 n n,vS xb 0 n n,vI sp,vI sc,vI ss]) 92 (0,0)),(bb,.rows 5 n (rowE motE bl) 37 (0,0)),(xb,.rows 4 n (rowE bxE xl) 25 (0,0))],[],True,0⟩) ?_ ?_
 ·rintro ⟨n3,n4⟩
  refine RN.go 2 [] λ _=>RN.draw [8] []<|RD.go [] [0,2,4,1,3] [.own 1,.own 1,.own 1,.own 1]<|RD.cp [] 5 (λ X_=>(vmuldiv_any (⟨(bl.getD i dMot).vx,(bl.getD i dMot).vy⟩:V2) f 1024  _))<|RD.cp [] 6 (λ X_=>(vadd_any (⟨(bl.getD i dMot).px,(bl.getD i dMot).py⟩:V2) (vmuldiv (⟨(bl.getD i dMot).vx,(bl.getD i dMot).vy⟩:V2) f 1024)  _))<|RD.go [] [7] []<|RD.one 8 (RDO.ev [] [.own 1,.own 1] λ _=>?_)
  refine RD.fin<|RN.go 14 [.own 1,.own 1,.own 0,.own 0] λ _=>RN.cp (bounce_any S wp bb hb xb n sp sc ss ((vadd (⟨(bl.getD i dMot).px,(bl.getD i dMot).py⟩:V2) (vmuldiv (⟨(bl.getD i dMot).vx,(bl.getD i dMot).vy⟩:V2) f 1024)).x) ((bl.getD i dMot).vx) S.box.x0 S.box.x1 _ (in_ap 2))<|RN.go 24 [.own 1,.own 1,.own 1,.own 1,.own 0,.own 0] λ _=>RN.cp (bounce_any S wp bb hb xb n sp sc ss ((vadd (⟨(bl.getD i dMot).px,(bl.getD i dMot).py⟩:V2) (vmuldiv (⟨(bl.getD i dMot).vx,(bl.getD i dMot).vy⟩:V2) f 1024)).y) ((bl.getD i dMot).vy) S.box.y0 S.box.y1 _ (in_ap 2))<|RN.go 15 (ow 1 7) λ _=>RN.ct [3,4] [] (update_ap S wp bb hb xb n i sp sc ss bl xl (⟨clampI ((vadd (⟨(bl.getD i dMot).px,(bl.getD i dMot).py⟩:V2) (vmuldiv (⟨(bl.getD i dMot).vx,(bl.getD i dMot).vy⟩:V2) f 1024)).x) S.box.x0 S.box.x1,clampI ((vadd (⟨(bl.getD i dMot).px,(bl.getD i dMot).py⟩:V2) (vmuldiv (⟨(bl.getD i dMot).vx,(bl.getD i dMot).vy⟩:V2) f 1024)).y) S.box.y0 S.box.y1,bncV ((vadd (⟨(bl.getD i dMot).px,(bl.getD i dMot).py⟩:V2) (vmuldiv (⟨(bl.getD i dMot).vx,(bl.getD i dMot).vy⟩:V2) f 1024)).x) ((bl.getD i dMot).vx) S.box.x0 S.box.x1 S.rest,bncV ((vadd (⟨(bl.getD i dMot).px,(bl.getD i dMot).py⟩:V2) (vmuldiv (⟨(bl.getD i dMot).vx,(bl.getD i dMot).vy⟩:V2) f 1024)).y) ((bl.getD i dMot).vy) S.box.y0 S.box.y1 S.rest,(bl.getD i dMot).inv⟩:Mot) _ (in_ap 2) hS.up hn (by omega) (by first | exact hbl | (rw [List.length_set];exact hbl)) (by first | exact hxl | (rw [List.length_set];exact hxl))) ?_
  rintro _ ⟨⟩ _
  refine RN.go 1 [] λ _=>RN.ret [] [4,0,1] [] (v:=.tuple #[]) (H':=[(wp,.lit (Setup.l S++[vS bb 0 n n,vS hb 0 n n,vS xb 0 n n,vI sp,vI sc,vI ss]) 92 (0,0)),(bb,.rows 5 n (rowE motE (bl.set i (⟨clampI ((vadd (⟨(bl.getD i dMot).px,(bl.getD i dMot).py⟩:V2) (vmuldiv (⟨(bl.getD i dMot).vx,(bl.getD i dMot).vy⟩:V2) f 1024)).x) S.box.x0 S.box.x1,clampI ((vadd (⟨(bl.getD i dMot).px,(bl.getD i dMot).py⟩:V2) (vmuldiv (⟨(bl.getD i dMot).vx,(bl.getD i dMot).vy⟩:V2) f 1024)).y) S.box.y0 S.box.y1,bncV ((vadd (⟨(bl.getD i dMot).px,(bl.getD i dMot).py⟩:V2) (vmuldiv (⟨(bl.getD i dMot).vx,(bl.getD i dMot).vy⟩:V2) f 1024)).x) ((bl.getD i dMot).vx) S.box.x0 S.box.x1 S.rest,bncV ((vadd (⟨(bl.getD i dMot).px,(bl.getD i dMot).py⟩:V2) (vmuldiv (⟨(bl.getD i dMot).vx,(bl.getD i dMot).vy⟩:V2) f 1024)).y) ((bl.getD i dMot).vy) S.box.y0 S.box.y1 S.rest,(bl.getD i dMot).inv⟩:Mot))) 37 (0,0)),(xb,.rows 4 n (rowE bxE (xl.set i (bounds (S.body i).sh ⟨(⟨clampI ((vadd (⟨(bl.getD i dMot).px,(bl.getD i dMot).py⟩:V2) (vmuldiv (⟨(bl.getD i dMot).vx,(bl.getD i dMot).vy⟩:V2) f 1024)).x) S.box.x0 S.box.x1,clampI ((vadd (⟨(bl.getD i dMot).px,(bl.getD i dMot).py⟩:V2) (vmuldiv (⟨(bl.getD i dMot).vx,(bl.getD i dMot).vy⟩:V2) f 1024)).y) S.box.y0 S.box.y1,bncV ((vadd (⟨(bl.getD i dMot).px,(bl.getD i dMot).py⟩:V2) (vmuldiv (⟨(bl.getD i dMot).vx,(bl.getD i dMot).vy⟩:V2) f 1024)).x) ((bl.getD i dMot).vx) S.box.x0 S.box.x1 S.rest,bncV ((vadd (⟨(bl.getD i dMot).px,(bl.getD i dMot).py⟩:V2) (vmuldiv (⟨(bl.getD i dMot).vx,(bl.getD i dMot).vy⟩:V2) f 1024)).y) ((bl.getD i dMot).vy) S.box.y0 S.box.y1 S.rest,(bl.getD i dMot).inv⟩:Mot).px,(⟨clampI ((vadd (⟨(bl.getD i dMot).px,(bl.getD i dMot).py⟩:V2) (vmuldiv (⟨(bl.getD i dMot).vx,(bl.getD i dMot).vy⟩:V2) f 1024)).x) S.box.x0 S.box.x1,clampI ((vadd (⟨(bl.getD i dMot).px,(bl.getD i dMot).py⟩:V2) (vmuldiv (⟨(bl.getD i dMot).vx,(bl.getD i dMot).vy⟩:V2) f 1024)).y) S.box.y0 S.box.y1,bncV ((vadd (⟨(bl.getD i dMot).px,(bl.getD i dMot).py⟩:V2) (vmuldiv (⟨(bl.getD i dMot).vx,(bl.getD i dMot).vy⟩:V2) f 1024)).x) ((bl.getD i dMot).vx) S.box.x0 S.box.x1 S.rest,bncV ((vadd (⟨(bl.getD i dMot).px,(bl.getD i dMot).py⟩:V2) (vmuldiv (⟨(bl.getD i dMot).vx,(bl.getD i dMot).vy⟩:V2) f 1024)).y) ((bl.getD i dMot).vy) S.box.y0 S.box.y1 S.rest,(bl.getD i dMot).inv⟩:Mot).py⟩))) 25 (0,0))]) ?_
  rfl
 ·intro key5
  refine RD.two 12 13 ?_ ?_
  ·refine RDO.ev [] [] λ n6=>RD.one 13 (RDO.ev [] [] λ n7=>?_)
   refine RD.one 14 (RDO.ev [2,3,4] (ow 1 5) λ _=>?_)
   refine RD.one 15 (RDO.ev [2,3,4] [.own 0,.own 0,.own 0,.own 0] λ _=>?_)
   exact key5 ⟨n6,n7⟩ [0,1,2,3,4] []
  ·refine RDO.ev [] [] λ n8=>RD.one 12 (RDO.ev [] [] λ n9=>?_)
   refine RD.one 14 (RDO.ev [2,3,4] (ow 0 5) λ _=>?_)
   refine RD.one 15 (RDO.ev [2,3,4] [.own 1,.own 1,.own 1,.own 1] λ _=>?_)
   exact key5 ⟨n9,n8⟩ [1,0,2,3,4] []
theorem frac_run (S:Setup) (wp bb hb xb n i:Nat) (sp sc ss:Int) (W:MemS) (bl:List Mot) (hl:List Int) (xl:List Bx) (F:HL) (hS:SetIn F S) (hn:n=S.nb) (hi:i < n) (hW:WR S W bl hl xl) (hss:0 <= ss /\ ss <= 1000000):Sp Tryz.prog 44 #[vP wp 0,vI (i:Int)] [(wp,.lit (Setup.l S++[vS bb 0 n n,vS hb 0 n n,vS xb 0 n n,vI sp,vI sc,vI ss]) 92 (0,0)),(bb,.rows 5 n (rowE motE bl) 37 (0,0)),(xb,.rows 4 n (rowE bxE xl) 25 (0,0))] F (λ u H'=>∃ s':Int,H'=ap [(wp,.lit (Setup.l S++[vS bb 0 n n,vS hb 0 n n,vS xb 0 n n,vI sp,vI sc,vI (s')]) 92 (0,0)),(bb,.rows 5 n (rowE motE bl) 37 (0,0)),(xb,.rows 4 n (rowE bxE xl) 25 (0,0))] [] /\ (u=vI (frcE S i 0 n 1024 W) /\ 0 <= s' /\ s' <= ss+n /\ s'=ss+skE S i 0 n W)):=by
 have hroom:=hS.room
 have hnbS:=hS.nb
 refine Sp.run Tryz.func44 rfl (mc hS.blk mn) (A:=[(wp,.lit (Setup.l S++[vS bb 0 n n,vS hb 0 n n,vS xb 0 n n,vI sp,vI sc,vI ss]) 92 (0,0)),(bb,.rows 5 n (rowE motE bl) 37 (0,0)),(xb,.rows 4 n (rowE bxE xl) 25 (0,0))]) (Ts:=[]) rfl λ w0=>?_
 refine RN.goP 35 ([.own 0,.own 1,.ix i,.row 2 i 0,.row 2 i 1,.row 2 i 2,.row 2 i 3,.row 2 i 4]++ow 0 5++[.own 1,.own 2,.ix i,.rorow 0 (S.bo+i) 0,.rorow 0 (S.bo+i) 1,.own 0,.own 0]) [((S.bo * 9+i * 9)+1)=(S.bo+i) * 9+1 /\ (S.bo+i) < S.bR,(S.bo * 9+i * 9)=(S.bo+i) * 9+0 /\ (S.bo+i) < S.bR,(i:Int)=((i:Nat):Int) /\ i < S.nb,((0+i * 5)+4)=i * 5+4 /\ i < n,((0+i * 5)+3)=i * 5+3 /\ i < n,((0+i * 5)+2)=i * 5+2 /\ i < n,((0+i * 5)+1)=i * 5+1 /\ i < n,(0+i * 5)=i * 5+0 /\ i < n,(i:Int)=((i:Nat):Int) /\ i < n] λ n1=>RN.draw [16] []<|RD.goP [] [0,4,7,8,10,1,9,11,2,3,5,6] [.own 2,.own 0,.own 0,.own 1,.own 1,.own 1,.own 1,.own 3,.ix i,.row 5 i 0,.row 5 i 1,.row 5 i 2,.row 5 i 3] [((0+i * 4)+3)=i * 4+3 /\ i < n,((0+i * 4)+2)=i * 4+2 /\ i < n,((0+i * 4)+1)=i * 4+1 /\ i < n,(0+i * 4)=i * 4+0 /\ i < n,(i:Int)=((i:Nat):Int) /\ i < n]<|RD.cp [] 12 (λ X_=>(vadd_any (⟨(bl.getD i dMot).px,(bl.getD i dMot).py⟩:V2) (⟨(bl.getD i dMot).vx,(bl.getD i dMot).vy⟩:V2)  _))<|RD.cp [] 13 (λ X_=>(bounds_any (S.bods.getD (S.bo+i) dB).sh (vadd (⟨(bl.getD i dMot).px,(bl.getD i dMot).py⟩:V2) (⟨(bl.getD i dMot).vx,(bl.getD i dMot).vy⟩:V2)) _ ((hS.shp i (by omega)).up.up)))<|RD.cp [] 14 (λ X_=>(hull_any (xl.getD i dBx) (bounds (S.bods.getD (S.bo+i) dB).sh (vadd (⟨(bl.getD i dMot).px,(bl.getD i dMot).py⟩:V2) (⟨(bl.getD i dMot).vx,(bl.getD i dMot).vy⟩:V2))) _))<|RD.one 15 (RDO.ev [] [] λ n2=>?_)
 refine RD.one 16 (RDO.ev [] [.own 0,.own 0,.own 0,.own 0] λ _=>?_)
 refine RD.fin<|RN.go 24 [.own 3,.own 4] λ _=>RN.loop (σ:=Nat × Int × Int) (λ ⟨j_,f_,s_⟩=>⟨[(1,vI (i:Int)),(2,vP (n1+0) 0),(5,vP (n1+1) 0),(6,vP (n1+2) 0),(8,.func (.func 67) #[] #[vP (n2+0) 0,vP (n1+0) 0]),(9,vI f_),(47,vS bb 0 n n),(48,vI (n:Int)),(49,vI (j_:Int))],[((n2+0),.lit [vI ((hullB (xl.getD i dBx) (bounds (S.bods.getD (S.bo+i) dB).sh (vadd (⟨(bl.getD i dMot).px,(bl.getD i dMot).py⟩:V2) (⟨(bl.getD i dMot).vx,(bl.getD i dMot).vy⟩:V2)))).x0),vI ((hullB (xl.getD i dBx) (bounds (S.bods.getD (S.bo+i) dB).sh (vadd (⟨(bl.getD i dMot).px,(bl.getD i dMot).py⟩:V2) (⟨(bl.getD i dMot).vx,(bl.getD i dMot).vy⟩:V2)))).y0),vI ((hullB (xl.getD i dBx) (bounds (S.bods.getD (S.bo+i) dB).sh (vadd (⟨(bl.getD i dMot).px,(bl.getD i dMot).py⟩:V2) (⟨(bl.getD i dMot).vx,(bl.getD i dMot).vy⟩:V2)))).x1),vI ((hullB (xl.getD i dBx) (bounds (S.bods.getD (S.bo+i) dB).sh (vadd (⟨(bl.getD i dMot).px,(bl.getD i dMot).py⟩:V2) (⟨(bl.getD i dMot).vx,(bl.getD i dMot).vy⟩:V2)))).y1)] 25 (0,0)),((n1+2),.lit [vI ((S.bods.getD (S.bo+i) dB).sh.r),.slice ((S.bods.getD (S.bo+i) dB).sh.A) ((S.bods.getD (S.bo+i) dB).sh.poly.length) ((S.bods.getD (S.bo+i) dB).sh.cap)] 35 (0,0)),((n1+1),.lit [vI ((bl.getD i dMot).px),vI ((bl.getD i dMot).py),vI ((bl.getD i dMot).vx),vI ((bl.getD i dMot).vy),vI ((bl.getD i dMot).inv)] 37 (0,0)),((n1+0),.lit [vP wp 0] 87 (0,0)),(wp,.lit (Setup.l S++[vS bb 0 n n,vS hb 0 n n,vS xb 0 n n,vI sp,vI sc,vI s_]) 92 (0,0)),(bb,.rows 5 n (rowE motE bl) 37 (0,0)),(xb,.rows 4 n (rowE bxE xl) 25 (0,0))],[],j_ <= n /\ (0 <= s_ /\ s_ <= ss+j_) /\ frcE S i 0 n 1024 W=frcE S i j_ (n - j_) f_ W /\ ss+skE S i 0 n W=s_+skE S i j_ (n - j_) W,n - j_⟩) (0,1024,ss) [0,1,2,3,4,5,6] [] (⟨Nat.zero_le _,by omega,rfl,rfl⟩) ?_
 rintro ⟨j_,f_,s_⟩ ⟨hj_,hs_,hfr_,hsk_⟩ mt4
 refine RN.go 6 [] λ _=>RN.em ((j_:Int) < (n:Int)) 50 (λ h5=>?_) λ h5=>?_
 ·refine RN.go 6 [] λ _=>?_
  obtain ⟨has_,her_⟩:=frc_as hW (i:=i) (j:=j_) (by omega) (by omega)
  have hstep_:∀ f:Int,frcE S i j_ (n - j_) f W=frcE S i ((j_:Int)+1) (n - (j_+1)) (if (i:Int)=(j_:Int) then f else if asideG S i j_ W then f else if earG S i j_ W < f then earG S i j_ W else f) W:=λ f=>by rw [show n - j_=(n - (j_+1))+1 by omega];rfl
  refine RN.goP 17 ([.ix j_,.row 5 j_ 0,.row 5 j_ 1,.row 5 j_ 2,.row 5 j_ 3,.row 5 j_ 4]++ow 0 5) [((0+j_ * 5)+4)=j_ * 5+4 /\ j_ < n,((0+j_ * 5)+3)=j_ * 5+3 /\ j_ < n,((0+j_ * 5)+2)=j_ * 5+2 /\ j_ < n,((0+j_ * 5)+1)=j_ * 5+1 /\ j_ < n,(0+j_ * 5)=j_ * 5+0 /\ j_ < n,(j_:Int)=((j_:Nat):Int) /\ j_ < n] λ n6=>RN.em ((j_:Int)=(i:Int)) 56 (λ h7=>?_) λ h7=>?_
  ·refine RN.goP 9 [.nw] [I64 ((j_:Int)+1)] λ _=>RN.sv 49 (congrArg (λ v_=>(vI v_:Value)) (show (j_:Int)+1=((j_+1:Nat):Int) by omega)) ?_
   refine mt4 (j_+1,f_,s_) [1,2,3,4,5,6,7] [] ?_
   try dsimp only
   refine ⟨⟨by omega,by omega,?_,?_⟩,by omega⟩
   ·rw [hfr_,hstep_,if_pos h7.symm]
    all_goals rfl
   ·rw [hsk_,skE_go (by omega),if_pos (by omega)];omega
  ·refine RN.go 8 [] λ _=>RN.cp (asid_any S wp bb hb xb n (n1+0) (n2+0) j_ sp sc s_ (hullB (xl.getD i dBx) (bounds (S.bods.getD (S.bo+i) dB).sh (vadd (⟨(bl.getD i dMot).px,(bl.getD i dMot).py⟩:V2) (⟨(bl.getD i dMot).vx,(bl.getD i dMot).vy⟩:V2)))) xl _ (in_ap 5) (in_ap 1) (in_ap 4) (in_ap 7) (by omega))<|RN.go 2 [] λ _=>RN.en (ovl (hullB (xl.getD i dBx) (bounds (S.bods.getD (S.bo+i) dB).sh (vadd (⟨(bl.getD i dMot).px,(bl.getD i dMot).py⟩:V2) (⟨(bl.getD i dMot).vx,(bl.getD i dMot).vy⟩:V2)))) (xl.getD j_ dBx)) 59 (λ h8=>?_) λ h8=>?_
   ·refine RN.go 3 [] λ _=>RN.draw [] []<|RD.goP [] [0,1,2,4,6,11,15,17,3,5,7,16,8,9,10,12,13,14] [.own 2,.own 2,.own 4,.own 3,.own 3,.own 3,.own 3,.own 0,.own 0,.own 5,.ix j_,.rorow 0 (S.bo+j_) 0,.rorow 0 (S.bo+j_) 1] [((S.bo * 9+j_ * 9)+1)=(S.bo+j_) * 9+1 /\ (S.bo+j_) < S.bR,(S.bo * 9+j_ * 9)=(S.bo+j_) * 9+0 /\ (S.bo+j_) < S.bR,(j_:Int)=((j_:Nat):Int) /\ j_ < S.nb]<|RD.cp [] 18 (λ X_=>(earliest_any (S.bods.getD (S.bo+i) dB).sh (⟨(bl.getD i dMot).px,(bl.getD i dMot).py⟩:V2) (⟨(bl.getD i dMot).vx,(bl.getD i dMot).vy⟩:V2) (S.bods.getD (S.bo+j_) dB).sh (⟨(bl.getD j_ dMot).px,(bl.getD j_ dMot).py⟩:V2) (⟨0,0⟩:V2) _ ((hS.shp i (by omega)).up.up) ((hS.shp j_ (by omega)).up.up)))<|RD.go [] [19,20] []<|RD.fin<|RN.goP 6 [.nw] [I64 ((j_:Int)+1)] λ _=>RN.sv 49 (congrArg (λ v_=>(vI v_:Value)) (show (j_:Int)+1=((j_+1:Nat):Int) by omega)) ?_
    refine mt4 (j_+1,if earlS (S.bods.getD (S.bo+i) dB).sh (⟨(bl.getD i dMot).px,(bl.getD i dMot).py⟩:V2) (⟨(bl.getD i dMot).vx,(bl.getD i dMot).vy⟩:V2) (S.bods.getD (S.bo+j_) dB).sh (⟨(bl.getD j_ dMot).px,(bl.getD j_ dMot).py⟩:V2) (⟨0,0⟩:V2) < f_ then earlS (S.bods.getD (S.bo+i) dB).sh (⟨(bl.getD i dMot).px,(bl.getD i dMot).py⟩:V2) (⟨(bl.getD i dMot).vx,(bl.getD i dMot).vy⟩:V2) (S.bods.getD (S.bo+j_) dB).sh (⟨(bl.getD j_ dMot).px,(bl.getD j_ dMot).py⟩:V2) (⟨0,0⟩:V2) else f_,s_) [1,2,3,4,5,6,7] [] ?_
    try dsimp only
    refine ⟨⟨by omega,by omega,?_,?_⟩,by omega⟩
    ·rw [hfr_,hstep_,if_neg (λ e_=>h7 e_.symm),if_neg (λ e_=>has_.1 e_ h8),her_]
     all_goals rfl
    ·rw [hsk_,skE_go (by omega),if_neg (by omega),if_neg (λ e_=>has_.1 e_ h8)];omega
   ·refine RN.goP 23 [.own 4,.own 5,.nw,.own 5,.nw] [I64 ((j_:Int)+1),I64 (s_+1)] λ _=>RN.sv 49 (congrArg (λ v_=>(vI v_:Value)) (show (j_:Int)+1=((j_+1:Nat):Int) by omega)) ?_
    refine mt4 (j_+1,f_,s_+1) [1,2,3,4,5,6,7] [] ?_
    try dsimp only
    refine ⟨⟨by omega,by omega,?_,?_⟩,by omega⟩
    ·rw [hfr_,hstep_,if_neg (λ e_=>h7 e_.symm),if_pos (has_.2 h8)]
     all_goals rfl
    ·rw [hsk_,skE_go (by omega),if_neg (by omega),if_pos (has_.2 h8)];omega
 ·refine RN.go 12 [] λ _=>RN.ret [] [4,5,6] [] (v:=vI f_) (H':=(ap [(wp,.lit (Setup.l S++[vS bb 0 n n,vS hb 0 n n,vS xb 0 n n,vI sp,vI sc,vI s_]) 92 (0,0)),(bb,.rows 5 n (rowE motE bl) 37 (0,0)),(xb,.rows 4 n (rowE bxE xl) 25 (0,0))] [])) ?_
  exact ⟨s_,rfl,by rw [hfr_,show n - j_=0 by omega];rfl,hs_.1,by omega,by rw [hsk_,show n - j_=0 by omega];simp [skE]⟩
theorem move_ap (S:Setup) (wp bb hb xb n i:Nat) (sp sc ss f:Int) (bl:List Mot) (xl:List Bx) (F:HL) (hS:SetIn F S) (hn:n=S.nb) (hi:i < n) (hbl:bl.length=n) (hxl:xl.length=n):Sp Tryz.prog 43 #[vP wp 0,vI (i:Int),vI f] (ap [(wp,.lit (Setup.l S++[vS bb 0 n n,vS hb 0 n n,vS xb 0 n n,vI sp,vI sc,vI ss]) 92 (0,0)),(bb,.rows 5 n (rowE motE bl) 37 (0,0)),(xb,.rows 4 n (rowE bxE xl) 25 (0,0))] []) F (λ u H'=>∃ x:Unit,H'=ap [(wp,.lit (Setup.l S++[vS bb 0 n n,vS hb 0 n n,vS xb 0 n n,vI sp,vI sc,vI ss]) 92 (0,0)),(bb,.rows 5 n (rowE motE (bl.set i (mvMot S (bl.getD i dMot) f))) 37 (0,0)),(xb,.rows 4 n (rowE bxE (xl.set i (bounds (S.body i).sh ⟨(mvMot S (bl.getD i dMot) f).px,(mvMot S (bl.getD i dMot) f).py⟩))) 25 (0,0))] [] /\ True) :=
 (move_run S wp bb hb xb n i sp sc ss f bl xl F hS hn hi hbl hxl).mono λ u H' h_=>⟨(),by rw [h_];rfl,trivial⟩
theorem frac_ap (S:Setup) (wp bb hb xb n i:Nat) (sp sc ss:Int) (W:MemS) (bl:List Mot) (hl:List Int) (xl:List Bx) (F:HL) (hS:SetIn F S) (hn:n=S.nb) (hi:i < n) (hW:WR S W bl hl xl) (hss:0 <= ss /\ ss <= 1000000):Sp Tryz.prog 44 #[vP wp 0,vI (i:Int)] (ap [(wp,.lit (Setup.l S++[vS bb 0 n n,vS hb 0 n n,vS xb 0 n n,vI sp,vI sc,vI ss]) 92 (0,0)),(bb,.rows 5 n (rowE motE bl) 37 (0,0)),(xb,.rows 4 n (rowE bxE xl) 25 (0,0))] []) F (λ u H'=>∃ s':Int,H'=ap [(wp,.lit (Setup.l S++[vS bb 0 n n,vS hb 0 n n,vS xb 0 n n,vI sp,vI sc,vI (s')]) 92 (0,0)),(bb,.rows 5 n (rowE motE bl) 37 (0,0)),(xb,.rows 4 n (rowE bxE xl) 25 (0,0))] [] /\ (u=vI (frcE S i 0 n 1024 W) /\ 0 <= s' /\ s' <= ss+n /\ s'=ss+skE S i 0 n W)) :=
 frac_run S wp bb hb xb n i sp sc ss W bl hl xl F hS hn hi hW hss
theorem earlL_bd (a:Shp) (pa va:V2) (b:Shp) (pb vb:V2):∀ (n k:Nat),k+n <= 8 -> 0 <= earlL a pa va b pb vb n k /\ earlL a pa va b pb vb n k <= 1024
 | 0,_,_=>by rw [earlL];omega
 | n+1,k,h=>by
  rw [earlL]
  split
  ·omega
  ·exact earlL_bd a pa va b pb vb n (k+1) (by omega)
theorem earG_bd (S:Setup) (i j:Int) (M:MemS):0 <= earG S i j M /\ earG S i j M <= 1024:=by
 have h:=earlL_bd (S.body i.toNat).sh ⟨(motM S M i).px,(motM S M i).py⟩ ⟨(motM S M i).vx,(motM S M i).vy⟩ (S.body j.toNat).sh ⟨(motM S M j).px,(motM S M j).py⟩ ⟨0,0⟩ 8 0 (by omega)
 show 0 <= earlS _ _ _ _ _ _ /\ earlS _ _ _ _ _ _ <= 1024
 unfold earlS
 split
 ·omega
 ·exact h
theorem frcE_bd (S:Setup) (i:Int) (M:MemS):∀ (k:Nat) (j f:Int),0 <= f /\ f <= 1024 -> 0 <= frcE S i j k f M /\ frcE S i j k f M <= 1024
 | 0,_,_,h=>h
 | k+1,j,f,h=>by
  rw [frcE]
  refine frcE_bd S i M k (j+1) _ ?_
  have:=earG_bd S i j M
  split
  ·exact h
  ·split
   ·exact h
   ·split <;> omega
theorem moves_step {S:Setup} (hV:SetV S) (hm:∀ k,k < S.nb -> smS (S.body k).sh) {W:MemS} {bl:List Mot} {hl:List Int} {xl:List Bx} (hW:WR S W bl hl xl) (hA:BiA S W) {n i:Nat} (hn:n=S.nb) (hi:i < n) :
  (0 <= frcE S i 0 n 1024 W /\ frcE S i 0 n 1024 W <= 1024) /\ (0 < (bl.getD i dMot).inv -> ∀ f,(if frcE S i 0 n 1024 W+128 < 1024 then frcE S i 0 n 1024 W+128 else 1024)=f -> WR S (mvG S i W) (bl.set i (mvMot S (bl.getD i dMot) f)) hl (xl.set i (bounds (S.body i).sh ⟨(mvMot S (bl.getD i dMot) f).px,(mvMot S (bl.getD i dMot) f).py⟩))) /\ (¬ 0 < (bl.getD i dMot).inv -> mvG S i W=W) /\ (bl.getD i dMot).inv=(S.body i).mot.inv:=by
 subst hn
 have e0:(bl.getD i dMot).inv=(S.body i).mot.inv:=by rw [hW.b i hi];rfl
 have e1:frcE S i 0 S.nb 1024 W=frcG S i 0 S.nb 1024 W:=frc_skip (i:=(i:Int)) hA ⟨by omega,by omega⟩ (by rw [Int.toNat_natCast];exact hm i hi) S.nb 0 1024 (by omega) (by omega) (by omega)
 have hb:=frcE_bd S i W S.nb 0 1024 (by omega)
 refine ⟨hb,λ h f hf=>?_,λ h=>?_,e0⟩
 ·have hp:movP S i:=⟨⟨by omega,by omega⟩,by rw [e0] at h;exact h⟩
  unfold mvG
  rw [if_pos hp,<- e1]
  exact hW.mv hV hi rfl _ (by rw [w64_id (by omega)];exact hf)
 ·unfold mvG
  exact if_neg λ hp=>h (by rw [e0];exact hp.2)
theorem moves_run (S:Setup) (wp bb hb xb n:Nat) (sp sc ss:Int) (W:MemS) (bl:List Mot) (hl:List Int) (xl:List Bx) (F:HL) (hS:SetIn F S) (hV:SetV S) (hB:BoxV S) (hm:∀ k,k < S.nb -> smS (S.body k).sh) (hn:n=S.nb) (hW:WR S W bl hl xl) (hA:BiA S W) (hss:0 <= ss /\ ss <= 100000):Sp Tryz.prog 28 #[vP wp 0] (ap [(wp,.lit (Setup.l S++[vS bb 0 n n,vS hb 0 n n,vS xb 0 n n,vI sp,vI sc,vI ss]) 92 (0,0)),(bb,.rows 5 n (rowE motE bl) 37 (0,0)),(xb,.rows 4 n (rowE bxE xl) 25 (0,0))] []) F (λ _ H'=>∃ x:Int × List Mot × List Bx,H'=ap [(wp,.lit (Setup.l S++[vS bb 0 n n,vS hb 0 n n,vS xb 0 n n,vI sp,vI sc,vI x.1]) 92 (0,0)),(bb,.rows 5 n (rowE motE x.2.1) 37 (0,0)),(xb,.rows 4 n (rowE bxE x.2.2) 25 (0,0))] [] /\ (WR S (mvsG S 0 n W) x.2.1 hl x.2.2 /\ 0 <= x.1 /\ x.1 <= ss+100 /\ x.1=ss+msE S 0 n W)):=by
 have hroom:=hS.room
 have hnbS:=hS.nb
 have hnV:=hV.nb
 refine Sp.run Tryz.func28 rfl mn (A:=[(wp,.lit (Setup.l S++[vS bb 0 n n,vS hb 0 n n,vS xb 0 n n,vI sp,vI sc,vI ss]) 92 (0,0)),(bb,.rows 5 n (rowE motE bl) 37 (0,0)),(xb,.rows 4 n (rowE bxE xl) 25 (0,0))]) (Ts:=[]) rfl λ w0=>?_
 refine RN.go 11 [.own 0] λ _=>RN.loop (σ:=Nat × List Mot × List Bx × Int × MemS) (λ ⟨j_,b_,x_,s_,W_⟩=>⟨[(0,vP wp 0),(7,vS bb 0 n n),(8,vI (n:Int)),(9,vI (j_:Int))],[(wp,.lit (Setup.l S++[vS bb 0 n n,vS hb 0 n n,vS xb 0 n n,vI sp,vI sc,vI s_]) 92 (0,0)),(bb,.rows 5 n (rowE motE b_) 37 (0,0)),(xb,.rows 4 n (rowE bxE x_) 25 (0,0))],[],j_ <= n /\ (0 <= s_ /\ s_ <= ss+10 * j_) /\ mvsG S 0 n W=mvsG S j_ (n - j_) W_ /\ WR S W_ b_ hl x_ /\ BiA S W_ /\ ss+msE S 0 n W=s_+msE S j_ (n - j_) W_,n - j_⟩) (0,bl,xl,ss,W) [0,1,2] [] (⟨Nat.zero_le _,by omega,rfl,hW,hA,rfl⟩) ?_
 rintro ⟨j_,b_,x_,s_,W_⟩ ⟨hj_,hs_,hmv_,hW_,hA_,hms_⟩ mt2
 refine RN.go 6 [] λ _=>RN.em ((j_:Int) < (n:Int)) 10 (λ h3=>?_) λ h3=>?_
 ·refine RN.go 6 [] λ _=>?_
  have hlb_:b_.length=n:=hW_.lb.trans hn.symm
  have hlx_:x_.length=n:=hW_.lx.trans hn.symm
  have hst_:=moves_step hV hm hW_ hA_ hn (i:=j_) (by omega)
  have hfb_:=hst_.1
  refine RN.goP 16 ([.ix j_,.row 1 j_ 0,.row 1 j_ 1,.row 1 j_ 2,.row 1 j_ 3,.row 1 j_ 4]++ow 0 6) [((0+j_ * 5)+4)=j_ * 5+4 /\ j_ < n,((0+j_ * 5)+3)=j_ * 5+3 /\ j_ < n,((0+j_ * 5)+2)=j_ * 5+2 /\ j_ < n,((0+j_ * 5)+1)=j_ * 5+1 /\ j_ < n,(0+j_ * 5)=j_ * 5+0 /\ j_ < n,(j_:Int)=((j_:Nat):Int) /\ j_ < n] λ n4=>RN.em ((b_.getD j_ dMot).inv > 0) 16 (λ h5=>?_) λ h5=>?_
  ·refine RN.go 6 [] λ _=>RN.ct [1,2,3] [] (frac_ap S wp bb hb xb n j_ sp sc s_ W_ b_ hl x_ _ hS.up hn (by omega) hW_ (by omega)) ?_
   rintro _ s2_ ⟨rfl,hs2_,hs3_,hs4_⟩
   refine RN.goP 2 [.nw] [I64 ((frcE S j_ 0 n 1024 W_)+128)] λ _=>RN.ct [0,1,2] [] (move_ap S wp bb hb xb n j_ sp sc s2_ (if (frcE S j_ 0 n 1024 W_)+128 < 1024 then (frcE S j_ 0 n 1024 W_)+128 else 1024) b_ x_ _ hS.up hn (by omega) hlb_ hlx_) ?_
   rintro _ ⟨⟩ _
   refine RN.goP 7 [.nw] [I64 ((j_:Int)+1)] λ _=>RN.sv 9 (congrArg (λ v_=>(vI v_:Value)) (show (j_:Int)+1=((j_+1:Nat):Int) by omega)) ?_
   refine mt2 (j_+1,(b_.set j_ (mvMot S (b_.getD j_ dMot) (if (frcE S j_ 0 n 1024 W_)+128 < 1024 then (frcE S j_ 0 n 1024 W_)+128 else 1024))),(x_.set j_ (bounds (S.body j_).sh ⟨(mvMot S (b_.getD j_ dMot) (if (frcE S j_ 0 n 1024 W_)+128 < 1024 then (frcE S j_ 0 n 1024 W_)+128 else 1024)).px,(mvMot S (b_.getD j_ dMot) (if (frcE S j_ 0 n 1024 W_)+128 < 1024 then (frcE S j_ 0 n 1024 W_)+128 else 1024)).py⟩)),s2_,mvG S j_ W_) [0,1,2] [] ?_
   try dsimp only
   refine ⟨⟨by omega,by omega,by rw [hmv_,show n - j_=(n - (j_+1))+1 by omega];rfl,?_,bi_mv hB hA_,?_⟩,by omega⟩
   ·exact hst_.2.1 (by omega) _ rfl
   ·rw [hms_,msE_go (by omega),if_pos (by rw [<- hst_.2.2.2];omega),<- hn];omega
  ·refine RN.goP 8 [.nw] [I64 ((j_:Int)+1)] λ _=>RN.sv 9 (congrArg (λ v_=>(vI v_:Value)) (show (j_:Int)+1=((j_+1:Nat):Int) by omega)) ?_
   refine mt2 (j_+1,b_,x_,s_,mvG S j_ W_) [1,2,3] [] ?_
   try dsimp only
   refine ⟨⟨by omega,by omega,by rw [hmv_,show n - j_=(n - (j_+1))+1 by omega];rfl,?_,bi_mv hB hA_,?_⟩,by omega⟩
   ·rw [hst_.2.2.1 (by omega)];exact hW_
   ·rw [hms_,msE_go (by omega),if_neg (by rw [<- hst_.2.2.2];omega)];omega
 ·refine RN.go 5 [] λ _=>RN.ret [] [0,1,2] [] (v:=.tuple #[]) (H':=(ap [(wp,.lit (Setup.l S++[vS bb 0 n n,vS hb 0 n n,vS xb 0 n n,vI sp,vI sc,vI s_]) 92 (0,0)),(bb,.rows 5 n (rowE motE b_) 37 (0,0)),(xb,.rows 4 n (rowE bxE x_) 25 (0,0))] [])) ?_
  exact ⟨(s_,b_,x_),rfl,by rw [hmv_,show n - j_=0 by omega];exact hW_,hs_.1,by omega,by rw [hms_,show n - j_=0 by omega];simp [msE]⟩
theorem cont_ap (S:Setup) (wp bb hb xb n i j:Nat) (sp sc ss:Int) (W:MemS) (bl:List Mot) (hl:List Int) (xl:List Bx) (F:HL) (hV:SetV S) (hS:SetIn F S) (hn:n=S.nb) (hW:WR S W bl hl xl) (hij:i < j) (hj:j < n) (hsc:0 <= sc /\ sc <= 1000000):Sp Tryz.prog 42 #[vP wp 0,vI (i:Int),vI (j:Int)] (ap [(wp,.lit (Setup.l S++[vS bb 0 n n,vS hb 0 n n,vS xb 0 n n,vI sp,vI sc,vI ss]) 92 (0,0)),(bb,.rows 5 n (rowE motE bl) 37 (0,0)),(hb,.rows 1 n (irow hl) 3 (0,0)),(xb,.rows 4 n (rowE bxE xl) 25 (0,0))] []) F (λ u H'=>∃ x:Int × List Mot × List Int × List Bx,H'=ap [(wp,.lit (Setup.l S++[vS bb 0 n n,vS hb 0 n n,vS xb 0 n n,vI sp,vI x.1,vI ss]) 92 (0,0)),(bb,.rows 5 n (rowE motE x.2.1) 37 (0,0)),(hb,.rows 1 n (irow x.2.2.1) 3 (0,0)),(xb,.rows 4 n (rowE bxE x.2.2.2) 25 (0,0))] [] /\ (WR S (conG S i j W) x.2.1 x.2.2.1 x.2.2.2 /\ ((x.1=sc /\ conG S i j W=W) \/ x.1=sc+1))) :=
 contact_run S wp bb hb xb n i j sp sc ss W bl hl xl F hS hV hn hW hij hj (hW.lb.trans hn.symm) (hW.lh.trans hn.symm) (hW.lx.trans hn.symm) hsc
theorem contacts_run (S:Setup) (wp bb hb xb n:Nat) (sp sc ss:Int) (W:MemS) (bl:List Mot) (hl:List Int) (xl:List Bx) (F:HL) (hS:SetIn F S) (hV:SetV S) (hn:n=S.nb) (hW:WR S W bl hl xl) (hsp:0 <= sp /\ sp <= 1000) (hsc:0 <= sc /\ sc <= 1000):Sp Tryz.prog 27 #[vP wp 0] (ap [(wp,.lit (Setup.l S++[vS bb 0 n n,vS hb 0 n n,vS xb 0 n n,vI sp,vI sc,vI ss]) 92 (0,0)),(bb,.rows 5 n (rowE motE bl) 37 (0,0)),(hb,.rows 1 n (irow hl) 3 (0,0)),(xb,.rows 4 n (rowE bxE xl) 25 (0,0))] []) F (λ _ H'=>∃ x:Int × Int × List Mot × List Int × List Bx,H'=ap [(wp,.lit (Setup.l S++[vS bb 0 n n,vS hb 0 n n,vS xb 0 n n,vI x.1,vI x.2.1,vI ss]) 92 (0,0)),(bb,.rows 5 n (rowE motE x.2.2.1) 37 (0,0)),(hb,.rows 1 n (irow x.2.2.2.1) 3 (0,0)),(xb,.rows 4 n (rowE bxE x.2.2.2.2) 25 (0,0))] [] /\ (WR S (rndG S S.rounds.toNat W) x.2.2.1 x.2.2.2.1 x.2.2.2.2 /\ (0 <= x.1 /\ x.1 <= sp+300) /\ (0 <= x.2.1 /\ x.2.1 <= sc+300) /\ (noO S W -> x.1=sp /\ x.2.1=sc))):=by
 have hroom:=hS.room
 have hnV:=hV.nb
 have hrV:=hV.ro
 refine Sp.run Tryz.func27 rfl mn (A:=[(wp,.lit (Setup.l S++[vS bb 0 n n,vS hb 0 n n,vS xb 0 n n,vI sp,vI sc,vI ss]) 92 (0,0)),(bb,.rows 5 n (rowE motE bl) 37 (0,0)),(hb,.rows 1 n (irow hl) 3 (0,0)),(xb,.rows 4 n (rowE bxE xl) 25 (0,0))]) (Ts:=[]) rfl λ w0=>?_
 refine RN.go 22 [.own 0,.own 1] λ n1=>RN.loop (σ:=Nat × Int × Int × List Mot × List Int × List Bx × MemS) (λ ⟨r_,p0_,c0_,b0_,h0_,x0_,W0_⟩=>⟨[(1,vP (n1+0) 0),(2,.func (.func 40) #[] #[vP (n1+0) 0]),(11,vI S.rounds),(12,vI (r_:Int))],[((n1+0),.lit [vP wp 0] 87 (0,0)),(wp,.lit (Setup.l S++[vS bb 0 n n,vS hb 0 n n,vS xb 0 n n,vI p0_,vI c0_,vI ss]) 92 (0,0)),(bb,.rows 5 n (rowE motE b0_) 37 (0,0)),(hb,.rows 1 n (irow h0_) 3 (0,0)),(xb,.rows 4 n (rowE bxE x0_) 25 (0,0))],[],r_ <= S.rounds.toNat /\ (0 <= p0_ /\ p0_ <= sp+100 * r_) /\ (0 <= c0_ /\ c0_ <= sc+100 * r_) /\ rndG S S.rounds.toNat W=rndG S (S.rounds.toNat - r_) W0_ /\ WR S W0_ b0_ h0_ x0_ /\ (noO S W -> p0_=sp /\ c0_=sc /\ W0_=W),S.rounds.toNat - r_⟩) (0,sp,sc,bl,hl,xl,W) [0,1,2,3,4] [] (⟨by omega,by omega,by omega,rfl,hW,λ _=>⟨rfl,rfl,rfl⟩⟩) ?_
 rintro ⟨r_,p0_,c0_,b0_,h0_,x0_,W0_⟩ ⟨hr_,hp0_,hc0_,hg0_,hW0_,hz0_⟩ mt3
 refine RN.go 6 [] λ _=>RN.em ((r_:Int) < S.rounds) 13 (λ h4=>?_) λ h4=>?_
 ·refine RN.go 27 [.own 0,.own 1,.own 0,.own 1] λ _=>RN.loop (σ:=Nat × Int × Int × List Mot × List Int × List Bx × MemS) (λ ⟨i_,p1_,c1_,b1_,h1_,x1_,W1_⟩=>⟨[(1,vP (n1+0) 0),(2,.func (.func 40) #[] #[vP (n1+0) 0]),(3,vI c0_),(11,vI S.rounds),(12,vI (r_:Int)),(23,vI (n:Int)),(24,vI (i_:Int))],[((n1+0),.lit [vP wp 0] 87 (0,0)),(wp,.lit (Setup.l S++[vS bb 0 n n,vS hb 0 n n,vS xb 0 n n,vI p1_,vI c1_,vI ss]) 92 (0,0)),(bb,.rows 5 n (rowE motE b1_) 37 (0,0)),(hb,.rows 1 n (irow h1_) 3 (0,0)),(xb,.rows 4 n (rowE bxE x1_) 25 (0,0))],[],i_ <= n /\ (0 <= p1_ /\ p1_ <= sp+100 * r_+10 * i_) /\ (c0_ <= c1_ /\ c1_ <= sc+100 * r_+10 * i_) /\ outG S 0 n W0_=outG S i_ (n - i_) W1_ /\ WR S W1_ b1_ h1_ x1_ /\ (c1_=c0_ -> W1_=W0_) /\ (noO S W -> p1_=sp /\ c1_=sc /\ W1_=W),n - i_⟩) (0,p0_,c0_,b0_,h0_,x0_,W0_) [0,1,2,3,4] [] (⟨by omega,by omega,by omega,rfl,hW0_,λ _=>rfl,hz0_⟩) ?_
  rintro ⟨i_,p1_,c1_,b1_,h1_,x1_,W1_⟩ ⟨hi_,hp1_,hc1_,hg1_,hW1_,he1_,hz1_⟩ mt6
  refine RN.go 6 [] λ _=>RN.em ((i_:Int) < (n:Int)) 25 (λ h7=>?_) λ h7=>?_
  ·refine RN.goP 19 [.nw] [I64 ((i_:Int)+1)] λ _=>RN.loop (σ:=Nat × Int × Int × List Mot × List Int × List Bx × MemS) (λ ⟨j_,p_,c_,b_,h_,x_,W_⟩=>⟨[(1,vP (n1+0) 0),(2,.func (.func 40) #[] #[vP (n1+0) 0]),(3,vI c0_),(4,vI (i_:Int)),(5,vI (j_:Int)),(11,vI S.rounds),(12,vI (r_:Int)),(23,vI (n:Int)),(24,vI (i_:Int))],[((n1+0),.lit [vP wp 0] 87 (0,0)),(wp,.lit (Setup.l S++[vS bb 0 n n,vS hb 0 n n,vS xb 0 n n,vI p_,vI c_,vI ss]) 92 (0,0)),(bb,.rows 5 n (rowE motE b_) 37 (0,0)),(hb,.rows 1 n (irow h_) 3 (0,0)),(xb,.rows 4 n (rowE bxE x_) 25 (0,0))],[],(i_ < j_ /\ j_ <= n) /\ (0 <= p_ /\ p_ <= sp+100 * r_+10 * i_+j_) /\ (c1_ <= c_ /\ c_ <= sc+100 * r_+10 * i_+j_) /\ innG S i_ ((i_+1:Nat):Int) (n - (i_+1)) W1_=innG S i_ j_ (n - j_) W_ /\ WR S W_ b_ h_ x_ /\ (c_=c1_ -> W_=W1_) /\ (noO S W -> p_=sp /\ c_=sc /\ W_=W),n - j_⟩) (i_+1,p1_,c1_,b1_,h1_,x1_,W1_) [0,1,2,3,4] [] (⟨by omega,by omega,by omega,rfl,hW1_,λ _=>rfl,hz1_⟩) ?_
   rintro ⟨j_,p_,c_,b_,h_,x_,W_⟩ ⟨hj_,hp_,hc_,hg_,hW_,he_,hz_⟩ mt9
   refine RN.go 12 [.own 0,.own 1] λ _=>RN.em ((j_:Int) < (n:Int)) 35 (λ h10=>?_) λ h10=>?_
   ·refine RN.go 10 [] λ _=>RN.cp (cand_any S wp bb hb xb n (n1+0) i_ j_ p_ c_ ss x_ _ (in_ap 1) (in_ap 0) (in_ap 4) (by omega) (by omega))<|RN.go 2 [] λ _=>RN.em (ovl (x_.getD i_ dBx) (x_.getD j_ dBx)) 41 (λ h11=>?_) λ h11=>?_
    ·refine RN.goP 19 [.own 0,.own 1,.nw,.own 1,.own 0] [I64 (p_+1)] λ _=>RN.ct [1,2,3,4] [] (cont_ap S wp bb hb xb n i_ j_ (p_+1) c_ ss W_ b_ h_ x_ _ hV hS.up hn hW_ (by omega) (by omega) (by omega)) ?_
     rintro _ ⟨c2_,b2_,h2_,x2_⟩ ⟨hW2_,hc2_⟩
     refine RN.goP 8 [.nw] [I64 ((j_:Int)+1)] λ _=>RN.sv 5 (congrArg (λ v_=>(vI v_:Value)) (show (j_:Int)+1=((j_+1:Nat):Int) by omega)) ?_
     refine mt9 (j_+1,p_+1,c2_,b2_,h2_,x2_,conG S i_ j_ W_) [4,0,1,2,3] [] ?_
     try dsimp only
     refine ⟨⟨by omega,by omega,by omega,by rw [hg_,inn_go (by omega)],?_,?_,?_⟩,by omega⟩
     ·exact hW2_
     ·intro e_;dsimp only at hc2_;rcases hc2_ with ⟨e1_,e2_⟩ | e1_
      ·rw [e2_];exact he_ (by omega)
      ·exfalso;omega
     ·intro hn_
      exact absurd h11 (no_ovl hW_ ((hz_ hn_).2.2 ▸ hn_) (by omega) (by omega))
    ·refine RN.goP 9 [.nw] [I64 ((j_:Int)+1)] λ _=>RN.sv 5 (congrArg (λ v_=>(vI v_:Value)) (show (j_:Int)+1=((j_+1:Nat):Int) by omega)) ?_
     refine mt9 (j_+1,p_,c_,b_,h_,x_,conG S i_ j_ W_) [0,1,2,3,4] [] ?_
     try dsimp only
     refine ⟨⟨by omega,by omega,by omega,by rw [hg_,inn_go (by omega)],?_,?_,?_⟩,by omega⟩
     ·rw [con_far hW_ (by omega) (by omega) h11];exact hW_
     ·intro e_;rw [con_far hW_ (by omega) (by omega) h11];exact he_ e_
     ·rw [con_far hW_ (by omega) (by omega) h11];exact hz_
   ·refine RN.goP 11 [.nw] [I64 ((i_:Int)+1)] λ _=>RN.sv 24 (congrArg (λ v_=>(vI v_:Value)) (show (i_:Int)+1=((i_+1:Nat):Int) by omega)) ?_
    refine mt6 (i_+1,p_,c_,b_,h_,x_,W_) [0,1,2,3,4] [] ?_
    try dsimp only
    refine ⟨⟨by omega,by omega,by omega,?_,hW_,?_,hz_⟩,by omega⟩
    ·rw [hg1_,out_go (by omega),hg_,show n - j_=0 by omega];rfl
    ·intro e_;rw [he_ (by omega)];exact he1_ (by omega)
  ·refine RN.go 17 [.own 0,.own 1] λ _=>RN.em (c1_=c0_) 62 (λ h12=>?_) λ h12=>?_
   ·refine RN.go 1 [] λ _=>RN.ret [] [1,2,3,4] [] (v:=.tuple #[]) (H':=(ap [(wp,.lit (Setup.l S++[vS bb 0 n n,vS hb 0 n n,vS xb 0 n n,vI p1_,vI c1_,vI ss]) 92 (0,0)),(bb,.rows 5 n (rowE motE b1_) 37 (0,0)),(hb,.rows 1 n (irow h1_) 3 (0,0)),(xb,.rows 4 n (rowE bxE x1_) 25 (0,0))] [])) ?_
    have e1_:=he1_ (by assumption)
    have e2_:outG S 0 S.nb W0_=W0_:=by rw [<- hn,hg1_,show n - i_=0 by omega];exact e1_
    exact ⟨(p1_,c1_,b1_,h1_,x1_),rfl,by rw [hg0_,rnd_same e2_,<- e1_];exact hW1_,by constructor <;> (try dsimp only) <;> omega,by constructor <;> (try dsimp only) <;> omega,λ h_=>⟨(hz1_ h_).1,(hz1_ h_).2.1⟩⟩
   ·refine RN.goP 8 [.nw] [I64 ((r_:Int)+1)] λ _=>RN.sv 12 (congrArg (λ v_=>(vI v_:Value)) (show (r_:Int)+1=((r_+1:Nat):Int) by omega)) ?_
    refine mt3 (r_+1,p1_,c1_,b1_,h1_,x1_,W1_) [0,1,2,3,4] [] ?_
    try dsimp only
    refine ⟨⟨by omega,by omega,by omega,?_,hW1_,hz1_⟩,by omega⟩
    rw [hg0_,rnd_go (by omega),<- hn,hg1_,show n - i_=0 by omega];rfl
 ·refine RN.go 5 [] λ _=>RN.ret [] [1,2,3,4] [] (v:=.tuple #[]) (H':=(ap [(wp,.lit (Setup.l S++[vS bb 0 n n,vS hb 0 n n,vS xb 0 n n,vI p0_,vI c0_,vI ss]) 92 (0,0)),(bb,.rows 5 n (rowE motE b0_) 37 (0,0)),(hb,.rows 1 n (irow h0_) 3 (0,0)),(xb,.rows 4 n (rowE bxE x0_) 25 (0,0))] [])) ?_
  exact ⟨(p0_,c0_,b0_,h0_,x0_),rfl,by rw [hg0_,show S.rounds.toNat - r_=0 by omega];exact hW0_,by constructor <;> (try dsimp only) <;> omega,by constructor <;> (try dsimp only) <;> omega,λ h_=>⟨(hz0_ h_).1,(hz0_ h_).2.1⟩⟩
end Go.Proofs.YthoijjeddhfcnaaGreat
