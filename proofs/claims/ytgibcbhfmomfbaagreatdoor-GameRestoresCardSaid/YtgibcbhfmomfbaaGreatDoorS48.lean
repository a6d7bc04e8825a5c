import Derived.Test.YtgibcbhfmomfbaaGreatDoorS47
set_option maxHeartbeats 4000000
set_option maxRecDepth 100000
set_option linter.unusedSimpArgs false
set_option linter.unusedVariables false
namespace Go.Proofs.YtgibcbhfmomfbaaGreatDoor
open Go.RowKit
def leafH (i v:Int):Int:=sumH ⟨#[108,101,97,102]⟩ [i,v]
def pairH (a b:Int):Int:=sumH ⟨#[112,97,105,114]⟩ [w64 a,w64 b]
def emptyH:Int:=sumH ⟨#[101,109,112,116,121]⟩ []
def hgtN (n:Nat):Nat:=if n <= 1 then 0 else Lib.bitLen (n - 1)
def szN (n:Nat):Nat:=2 ^ hgtN n
theorem hgt_lo {n:Nat} (h:(n:Int) <= 1):hgtN n=0:=by
 unfold hgtN
 rw [if_pos (by omega)]
theorem hgt_hi {n:Nat} (hl:n <= 1000000) (h:¬ (n:Int) <= 1):blen ((n:Int) - 1)=(hgtN n:Int):=by
 unfold hgtN blen
 rw [if_neg (by omega)]
 have e:(w64u ((n:Int) - 1)).toNat=n - 1:=by
  rw [show w64u ((n:Int) - 1)=(n:Int) - 1 by rw [w64u,IntKind.wrap];simp [IntKind.signed,IntKind.bits];omega]
  omega
 rw [e]
theorem bl_bd:∀ (f x:Nat),x < 2 ^ f -> x ≠ 0 -> ∃ m,Lib.bitLenAux f x=m+1 /\ 2 ^ m <= x /\ x < 2 ^ (m+1)
 | 0,x,h,h0=>absurd (by simpa using h) h0
 | f+1,x,h,h0=>by
  rw [Lib.bitLenAux,if_neg h0]
  by_cases h2:x / 2=0
  ·have e:Lib.bitLenAux f (x / 2)=0:=by rw [h2];cases f <;> simp [Lib.bitLenAux]
   rw [e]
   exact ⟨0,rfl,by simp;omega,by simp;omega⟩
  ·obtain ⟨m,e,h3,h4⟩:=bl_bd f (x / 2) (by rw [Nat.pow_succ] at h;omega) h2
   rw [e]
   exact ⟨m+1,by omega,by rw [Nat.pow_succ];omega,by rw [Nat.pow_succ];omega⟩
theorem hgt_bd {n:Nat} (h:n <= 1000000):hgtN n <= 20 /\ n <= szN n /\ 1 <= szN n /\ szN n <= 2000000:=by
 unfold szN hgtN
 by_cases h1:n <= 1
 ·rw [if_pos h1]
  simp
  omega
 ·rw [if_neg h1]
  obtain ⟨m,e,b2,b3⟩:=bl_bd 64 (n - 1) (by omega) (by omega)
  rw [show Lib.bitLen (n - 1)=m+1 from e]
  have hm:m < 20:=by
   apply Classical.byContradiction
   intro hn
   have:=Nat.pow_le_pow_right (n:=2) (by omega) (show 20 <= m by omega)
   omega
  rw [Nat.pow_succ] at b3 ⊢
  omega
theorem sz_eq {n:Nat} (h:n <= 1000000):IntKind.i64.wrap (1 * 2 ^ min ((hgtN n:Int)).toNat 64)=(szN n:Int):=by
 obtain ⟨h1,h2,h3,h4⟩:=hgt_bd h
 rw [Int.toNat_natCast,Nat.min_eq_left (by omega),IntKind.wrap_i64]
 have e:(1:Int) * 2 ^ hgtN n=(szN n:Int):=by
  unfold szN
  rw [Int.one_mul]
  norm_cast
 rw [e]
 omega
def urow (f:Nat -> Int):Nat -> Nat -> Value:=λ i k=>match k with | 0=>.int .u64 (f i) | _=>default
def updI (f:Nat -> Int) (i:Nat) (v:Int):Nat -> Int:=λ j=>if j=i then v else f j
theorem urow_upd (f:Nat -> Int) (i:Nat) (v:Int):updG (urow f) i 0 (.int .u64 v)=urow (updI f i v):=by
 funext j k
 unfold updG urow updI
 cases k with
 | zero=>by_cases h:j=i <;> simp [h]
 | succ k=>simp
def lfF (xs:List Int) (sz:Nat):Nat -> Nat -> Int
 | 0=>λ _=>0
 | i+1=>updI (lfF xs sz i) (sz+i) (leafH i (xs.getD i 0))
def emF (xs:List Int) (sz:Nat):Nat -> Nat -> Int
 | 0=>lfF xs sz xs.length
 | m+1=>updI (emF xs sz m) (sz+(xs.length+m)) emptyH
def inF (xs:List Int) (sz:Nat):Nat -> Nat -> Int
 | 0=>emF xs sz (sz - xs.length)
 | m+1=>updI (inF xs sz m) (sz - 1 - m) (pairH (inF xs sz m (2 * (sz - 1 - m))) (inF xs sz m (2 * (sz - 1 - m)+1)))
def rootF (xs:List Int):Int:=inF xs (szN xs.length) (szN xs.length - 1) 1
theorem urow_zero (xs:List Int) (sz:Nat):zrow [.int .u64 0]=urow (lfF xs sz 0):=by
 funext j k
 cases k with
 | zero=>rfl
 | succ k=>simp [zrow,urow]
theorem em_next {xs:List Int} {sz j:Nat} (h:xs.length <= j):updI (emF xs sz (j - xs.length)) (sz+j) emptyH=emF xs sz (j+1 - xs.length):=by
 rw [show j+1 - xs.length=(j - xs.length)+1 by omega,emF,show xs.length+(j - xs.length)=j by omega]
theorem in_next {xs:List Int} {sz k:Nat} (h:k+1 <= sz) (h1:1 <= k):updI (inF xs sz (sz - 1 - k)) k (pairH (inF xs sz (sz - 1 - k) (2 * k)) (inF xs sz (sz - 1 - k) (2 * k+1)))=inF xs sz (sz - 1 - (k - 1)):=by
 rw [show sz - 1 - (k - 1)=(sz - 1 - k)+1 by omega,inF,show sz - 1 - (sz - 1 - k)=k by omega]
theorem rows_irow (xs:List Int) {n:Nat} (h:xs.length=n):rowsOf 1 (irow xs) n=xs.map vI:=by
 refine rowsOf_ext (by simpa using h) λ i k hi hk=>?_
 obtain rfl:k=0:=by omega
 have hi2:i < xs.length:=by omega
 simp [irow,List.getD_eq_getElem?_getD,List.getElem?_eq_getElem hi2]
theorem irow_src {q c:Nat} {ty:TypeId} {xs:List Int} {H F:HL} (hq:(q,.rows 1 c (irow xs) ty (0,0)) ∈ H++F) (hc:xs.length <= c):∀ w,Rel (H++F) w -> ∀ j v,(xs.map vI)[j]?=some v -> w.cell? (Addr.add ⟨q,0,none⟩ j)=some v:=by
 intro w hr j v hv
 have hj:j < xs.length:=by
  have:=(List.getElem?_eq_some_iff.1 hv).1
  simpa using this
 have hb:=hr.holds _ hq
 rw [show Addr.add ⟨q,0,none⟩ j=⟨q,j,none⟩ by unfold Addr.add;split <;> simp_all,cell_rows (i:=j) (k:=0) hb rfl rfl (by simp) (by omega) (by omega)]
 rw [<- hv]
 simp [irow,List.getD_eq_getElem?_getD,List.getElem?_eq_getElem hj]
theorem one_vI {xs:List Int}:∀ v ∈ xs.map vI,v.oneCell'=true:=by
 intro v hv
 obtain ⟨x,_,rfl⟩:=List.mem_map.1 hv
 rfl
theorem hsum_nil (b:ByteArray) (F:HL) (hb:b.size <= 1000000):Sp Tryz.prog 95 #[.string b,.slice none 0 0] [] F (λ u H'=>u=.int .u64 (sumH b []) /\ H'=[]):=by
 refine Sp.run Tryz.func95 rfl mn (A:=[]) (Ts:=[]) rfl λ w0=>?_
 refine RN.go 10 [] λ _=>RN.cp (hbegin_any b 0 _ (by assumption))<|RN.go 12 [] λ _=>RN.rounds 1<|RN.go 15 [] λ _=>RN.cp (mix_any (beginH b 0) 0 _)<|RN.go 3 [] λ _=>?_
 exact RN.ret [] [] [] ⟨rfl,rfl⟩
theorem height_any (n:Nat) (F:HL) (hl:n <= 1000000):Sp Tryz.prog 93 #[vI (n:Int)] [] F (λ u H'=>u=vI (hgtN n:Int) /\ H'=[]):=by
 refine Sp.run Tryz.func93 rfl mn (A:=[]) (Ts:=[]) rfl λ w0=>?_
 refine RN.go 12 [] λ _=>RN.em ((n:Int) <= 1) 4 (λ h1=>?_) λ h1=>?_
 ·refine RN.go 6 [] λ _=>RN.ret [] [] [] (v:=vI 0) (H':=[]) ?_
  exact ⟨congrArg (λ x:Nat=>vI (x:Int)) (hgt_lo (by assumption)).symm,rfl⟩
 ·refine RN.goP 8 [.nw] [I64 ((n:Int) - 1)] λ _=>RN.cp (blen_any ((n:Int) - 1) _)<|RN.go 3 [] λ _=>RN.ret [] [] [] (v:=vI (blen ((n:Int) - 1))) (H':=[]) ?_
  exact ⟨congrArg vI (hgt_hi hl (by assumption)),rfl⟩
theorem leafh_any (i v:Int) (F:HL):Sp Tryz.prog 94 #[vI i,vI v] [] F (λ u H'=>u=.int .u64 (leafH i v) /\ H'=[]):=by
 refine Sp.run Tryz.func94 rfl mn (A:=[]) (Ts:=[]) rfl λ w0=>?_
 refine RN.go 10 [] λ n1=>RN.dn 0 (.rows 1 2 (irow [i,v]) 3 (0,0))<|RN.cp (hsum_any (⟨#[108,101,97,102]⟩) ([i,v]) (n1+0) 2 _ (by decide) (Nat.le_of_ble_eq_true rfl) (Nat.le_of_ble_eq_true rfl) (in_ap 0))<|RN.go 3 [] λ _=>?_
 exact RN.ret [] [] [] ⟨rfl,rfl⟩
theorem pairh_any (a b:Int) (F:HL):Sp Tryz.prog 96 #[.int .u64 a,.int .u64 b] [] F (λ u H'=>u=.int .u64 (pairH a b) /\ H'=[]):=by
 refine Sp.run Tryz.func96 rfl mn (A:=[]) (Ts:=[]) rfl λ w0=>?_
 refine RN.go 12 [] λ n1=>RN.dn 0 (.rows 1 2 (irow [IntKind.i64.wrap a,IntKind.i64.wrap b]) 3 (0,0))<|RN.cp (hsum_any (⟨#[112,97,105,114]⟩) ([IntKind.i64.wrap a,IntKind.i64.wrap b]) (n1+0) 2 _ (by decide) (Nat.le_of_ble_eq_true rfl) (Nat.le_of_ble_eq_true rfl) (in_ap 0))<|RN.go 3 [] λ _=>?_
 exact RN.ret [] [] [] ⟨rfl,rfl⟩
theorem mnew_any (q c:Nat) (xs:List Int) (F:HL) (hq:(q,.rows 1 c (irow xs) 3 (0,0)) ∈ F) (hc:xs.length <= c) (hl:xs.length <= 1000000):Sp Tryz.prog 69 #[vS q 0 xs.length c] [] F (λ u H'=>∃ x:Nat × Nat × Nat,H'=ap [(x.1,.lit [vI (hgtN xs.length:Int),vS x.2.1 0 xs.length xs.length,vS x.2.2 0 (2 * szN xs.length) (2 * szN xs.length)] 175 (0,0)),(x.2.2,.rows 1 (2 * szN xs.length) (urow (inF xs (szN xs.length) (szN xs.length - 1))) 66 (0,0))] [] /\ u=vP x.1 0):=by
 obtain ⟨hb1,hb2,hb3,hb4⟩:=hgt_bd hl
 have he:=sz_eq hl
 obtain ⟨sz,hsz⟩:∃ sz,szN xs.length=sz:=⟨_,rfl⟩
 rw [hsz] at hb2 hb3 hb4 he
 refine Sp.run Tryz.func69 rfl (mc hq mn) (A:=[]) (Ts:=[]) rfl λ w0=>?_
 refine RN.go 9 [] λ _=>RN.cp (height_any xs.length _ hl)<|RN.goP 11 [.dv] [0 <= (hgtN xs.length:Int)] λ _=>RN.draw [] []<|RD.sv 4 (congrArg (λ v_=>(vI v_:Value)) he)<|RD.goP [] [0,1,4,2,5] [.nw] [I64 (2 * (sz:Int))]<|RD.haveK (σ:=Nat × Nat × Nat) (λ ⟨n1,n2,n3⟩=>⟨[(0,vS q 0 xs.length c),(4,vI (sz:Int)),(5,vP (n3+0) 0)],[((n3+0),.lit [vI (hgtN xs.length:Int),vS (n1+0) 0 xs.length xs.length,vS (n2+0) 0 (2 * sz) (2 * sz)] 175 (0,0)),((n2+0),.rows 1 (2 * sz) (zrow [.int .u64 0]) 66 (0,0)),((n1+0),.rows 1 xs.length (zrow [vI 0]) 3 (0,0))],[],True,0⟩) ?_ ?_
 ·rintro ⟨n1,n2,n3⟩
  refine RN.go 8 [.own 0] λ _=>RN.cpy (b:=(n1+0)) (n:=xs.length) (cap:=xs.length) (m:=xs.length) (c':=c) (a:=⟨q,0,none⟩) (T:=3) (t:=22) (tx:=22) (ty:=3) (g:=(zrow [vI 0])) 2 (.rows 1 xs.length (irow xs) 3 (0,0)) (xs.map vI) (by simp) rfl one_vI rfl (irow_src (List.mem_append_right _ hq) hc) (congrArg (λ l:List Value=>(Obj.cells ⟨l⟩ 3 (0,0))) (rows_irow xs rfl))<|RN.go 11 [] λ _=>RN.bv 1 (congrArg (λ v_=>(.rows 1 (2 * sz) v_ 66 (0,0):Blk)) (show (zrow [.int .u64 0])=(urow (lfF xs sz 0)) from urow_zero xs sz))<|RN.loop (σ:=Nat) (λ i=>⟨[(0,vS q 0 xs.length c),(4,vI (sz:Int)),(5,vP (n3+0) 0),(31,vS q 0 xs.length c),(32,vI (xs.length:Int)),(33,vI (i:Int))],[((n3+0),.lit [vI (hgtN xs.length:Int),vS (n1+0) 0 xs.length xs.length,vS (n2+0) 0 (2 * sz) (2 * sz)] 175 (0,0)),((n2+0),.rows 1 (2 * sz) (urow (lfF xs sz i)) 66 (0,0)),((n1+0),.rows 1 xs.length (irow xs) 3 (0,0))],[],i <= xs.length,xs.length - i⟩) 0 [0,1,2] [] (Nat.zero_le _) ?_
  rintro i hI4 mt5
  refine RN.go 6 [] λ _=>RN.em ((i:Int) < (xs.length:Int)) 34 (λ h6=>?_) λ h6=>?_
  ·refine RN.goP 14 [.ix i,.rorow 0 i 0] [(0+i * 1)=i * 1+0 /\ i < c,(i:Int)=((i:Nat):Int) /\ i < xs.length] λ _=>RN.draw [11] []<|RD.goP [] [0,4,5,7,8,1,6,2,3] [.nw,.own 0] [I64 ((sz:Int)+(i:Int))]<|RD.cp [] 9 (λ X_=>(leafh_any (i:Int) (xs.getD i 0) _))<|RD.goP [] [10] [.ix (sz+i)] [(sz:Int)+(i:Int)=(((sz+i):Nat):Int) /\ (sz+i) < (2 * sz)]<|RD.one 11 (RDO.evP [] [.row 1 (sz+i) 0] [(0+(sz+i) * 1)=(sz+i) * 1+0 /\ (sz+i) < (2 * sz)] λ _=>?_)
   refine RD.fin<|RN.goP 6 [.nw] [I64 ((i:Int)+1)] λ _=>RN.bv 1 (congrArg (λ v_=>(.rows 1 (2 * sz) v_ 66 (0,0):Blk)) (show (updG (urow (lfF xs sz i)) (sz+i) 0 (.int .u64 (leafH (i:Int) (xs.getD i 0))))=(urow (lfF xs sz (i+1))) from (urow_upd _ _ _))) ?_
   refine mt5 (i+1) [0,1,2] [] ?_
   try dsimp only
   exact ⟨by omega,by omega⟩
  ·obtain rfl:i=xs.length:=by omega
   refine RN.go 8 [] λ _=>RN.cp (hsum_nil (⟨#[101,109,112,116,121]⟩) _ (by decide))<|RN.go 12 [] λ _=>RN.bv 1 (congrArg (λ v_=>(.rows 1 (2 * sz) v_ 66 (0,0):Blk)) (show (urow (lfF xs sz xs.length))=(urow (emF xs sz (xs.length - xs.length))) from (by rw [Nat.sub_self];rfl)))<|RN.loop (σ:=Nat) (λ j=>⟨[(4,vI (sz:Int)),(5,vP (n3+0) 0),(8,.int .u64 (sumH (⟨#[101,109,112,116,121]⟩) [])),(9,vI (j:Int))],[((n3+0),.lit [vI (hgtN xs.length:Int),vS (n1+0) 0 xs.length xs.length,vS (n2+0) 0 (2 * sz) (2 * sz)] 175 (0,0)),((n2+0),.rows 1 (2 * sz) (urow (emF xs sz (j - xs.length))) 66 (0,0)),((n1+0),.rows 1 xs.length (irow xs) 3 (0,0))],[],xs.length <= j /\ j <= sz,sz - j⟩) xs.length [0,1,2] [] (⟨Nat.le_refl _,by omega⟩) ?_
   rintro j ⟨hj_,hj2_⟩ mt8
   refine RN.go 8 [] λ _=>RN.em ((j:Int) < (sz:Int)) 55 (λ h9=>?_) λ h9=>?_
   ·refine RN.goP 24 [.own 0,.nw,.ix (sz+j),.row 1 (sz+j) 0,.nw] [I64 ((j:Int)+1),(0+(sz+j) * 1)=(sz+j) * 1+0 /\ (sz+j) < (2 * sz),(sz:Int)+(j:Int)=(((sz+j):Nat):Int) /\ (sz+j) < (2 * sz),I64 ((sz:Int)+(j:Int))] λ _=>RN.bv 1 (congrArg (λ v_=>(.rows 1 (2 * sz) v_ 66 (0,0):Blk)) (show (updG (urow (emF xs sz (j - xs.length))) (sz+j) 0 (.int .u64 (sumH (⟨#[101,109,112,116,121]⟩) [])))=(urow (emF xs sz (j+1 - xs.length))) from (by rw [urow_upd,<- em_next (by omega)];rfl))) ?_
    refine mt8 (j+1) [0,1,2] [] ?_
    try dsimp only
    exact ⟨⟨by omega,by omega⟩,by omega⟩
   ·obtain rfl:sz=j:=by omega
    refine RN.goP 15 [.nw] [I64 ((sz:Int) - 1)] λ _=>RN.bv 1 (congrArg (λ v_=>(.rows 1 (2 * sz) v_ 66 (0,0):Blk)) (show (urow (emF xs sz (sz - xs.length)))=(urow (inF xs sz (sz - 1 - (sz - 1)))) from (by rw [Nat.sub_self];rfl)))<|RN.sv 10 (congrArg (λ v_=>(vI v_:Value)) (show (sz:Int) - 1=((sz - 1:Nat):Int) by omega))<|RN.loop (σ:=Nat) (λ k=>⟨[(5,vP (n3+0) 0),(10,vI (k:Int))],[((n3+0),.lit [vI (hgtN xs.length:Int),vS (n1+0) 0 xs.length xs.length,vS (n2+0) 0 (2 * sz) (2 * sz)] 175 (0,0)),((n2+0),.rows 1 (2 * sz) (urow (inF xs sz (sz - 1 - k))) 66 (0,0)),((n1+0),.rows 1 xs.length (irow xs) 3 (0,0))],[],k+1 <= sz,k⟩) (sz - 1) [0,1,2] [] (by omega) ?_
    rintro k hI10 mt11
    refine RN.go 7 [] λ _=>RN.em ((k:Int) >= 1) 70 (λ h12=>?_) λ h12=>?_
    ·refine RN.go 5 [] λ _=>RN.draw [24] []<|RD.goP [] [0,4,5,9,13,17,1,6,10,14,18,2,7,15,19,3,8,16,11,20,12,21] [.nw,.nw,.nw,.own 0,.own 0,.own 0,.ix (2 * k),.ix (2 * k+1),.row 1 (2 * k) 0,.row 1 (2 * k+1) 0] [(0+(2 * k+1) * 1)=(2 * k+1) * 1+0 /\ (2 * k+1) < (2 * sz),(0+(2 * k) * 1)=(2 * k) * 1+0 /\ (2 * k) < (2 * sz),(2 * (k:Int))+1=(((2 * k+1):Nat):Int) /\ (2 * k+1) < (2 * sz),2 * (k:Int)=(((2 * k):Nat):Int) /\ (2 * k) < (2 * sz),I64 ((2 * (k:Int))+1),I64 (2 * (k:Int)),I64 (2 * (k:Int))]<|RD.cp [] 22 (λ X_=>(pairh_any ((inF xs sz (sz - 1 - k)) (2 * k)) ((inF xs sz (sz - 1 - k)) (2 * k+1)) _))<|RD.goP [] [23] [.ix k] [(k:Int)=((k:Nat):Int) /\ k < (2 * sz)]<|RD.one 24 (RDO.evP [] [.row 1 k 0] [(0+k * 1)=k * 1+0 /\ k < (2 * sz)] λ _=>?_)
     refine RD.fin<|RN.goP 7 [.nw] [I64 ((k:Int) - 1)] λ _=>RN.bv 1 (congrArg (λ v_=>(.rows 1 (2 * sz) v_ 66 (0,0):Blk)) (show (updG (urow (inF xs sz (sz - 1 - k))) k 0 (.int .u64 (pairH ((inF xs sz (sz - 1 - k)) (2 * k)) ((inF xs sz (sz - 1 - k)) (2 * k+1)))))=(urow (inF xs sz (sz - 1 - (k - 1)))) from (by rw [urow_upd,in_next (by omega) (by omega)])))<|RN.sv 10 (congrArg (λ v_=>(vI v_:Value)) (show (k:Int) - 1=((k - 1:Nat):Int) by omega)) ?_
     refine mt11 (k - 1) [0,1,2] [] ?_
     try dsimp only
     exact ⟨by omega,by omega⟩
    ·obtain rfl:k=0:=by omega
     refine RN.go 12 [] λ _=>RN.ret [] [0,1] [] (v:=vP (n3+0) 0) (H':=[((n3+0),.lit [vI (hgtN xs.length:Int),vS (n1+0) 0 xs.length xs.length,vS (n2+0) 0 (2 * sz) (2 * sz)] 175 (0,0)),((n2+0),.rows 1 (2 * sz) (urow (inF xs sz (sz - 1 - 0))) 66 (0,0))]) ?_
     subst hsz
     exact ⟨(_,_,_),rfl,rfl⟩
 ·intro key13
  refine RD.two 3 6 ?_ ?_
  ·refine RDO.evP [] [.mk xs.length xs.length] [(xs.length:Int)=((xs.length:Nat):Int) /\ (xs.length:Int)=((xs.length:Nat):Int) /\ xs.length <= xs.length /\ 8 * xs.length <= 140737488355328 /\ 1=1 /\ xs.length <= 9223372036854775807] λ n14=>RD.one 6 (RDO.evP [] [.mk (2 * sz) (2 * sz)] [2 * (sz:Int)=(((2 * sz):Nat):Int) /\ 2 * (sz:Int)=(((2 * sz):Nat):Int) /\ (2 * sz) <= (2 * sz) /\ 8 * (2 * sz) <= 140737488355328 /\ 1=1 /\ (2 * sz) <= 9223372036854775807] λ n15=>?_)
   refine RD.one 7 (RDO.ev [] [] λ _=>?_)
   refine RD.one 8 (RDO.ev [] [] λ n16=>?_)
   refine RD.one 9 (RDO.ev [] [] λ _=>?_)
   exact key13 ⟨n14,n15,n16⟩ [0,1,2] []
  ·refine RDO.evP [] [.mk (2 * sz) (2 * sz)] [2 * (sz:Int)=(((2 * sz):Nat):Int) /\ 2 * (sz:Int)=(((2 * sz):Nat):Int) /\ (2 * sz) <= (2 * sz) /\ 8 * (2 * sz) <= 140737488355328 /\ 1=1 /\ (2 * sz) <= 9223372036854775807] λ n17=>RD.one 3 (RDO.evP [] [.mk xs.length xs.length] [(xs.length:Int)=((xs.length:Nat):Int) /\ (xs.length:Int)=((xs.length:Nat):Int) /\ xs.length <= xs.length /\ 8 * xs.length <= 140737488355328 /\ 1=1 /\ xs.length <= 9223372036854775807] λ n18=>?_)
   refine RD.one 7 (RDO.ev [] [] λ _=>?_)
   refine RD.one 8 (RDO.ev [] [] λ n19=>?_)
   refine RD.one 9 (RDO.ev [] [] λ _=>?_)
   exact key13 ⟨n18,n17,n19⟩ [0,2,1] []
theorem troot_any (t cb nb n c:Nat) (h:Int) (f:Nat -> Int) (F:HL) (ht:(t,.lit [vI h,vS cb 0 n n,vS nb 0 c c] 175 (0,0)) ∈ F) (hn:(nb,.rows 1 c (urow f) 66 (0,0)) ∈ F) (hc:2 <= c):Sp Tryz.prog 70 #[vP t 0] [] F (λ u H'=>u=.int .u64 (f 1) /\ H'=[]):=by
 refine Sp.run Tryz.func70 rfl (mc ht (mc hn mn)) (A:=[]) (Ts:=[]) rfl λ w0=>?_
 refine RN.goP 16 [.ro 0,.ix 1,.rorow 1 1 0] [(0+1 * 1)=1 * 1+0 /\ 1 < c,1=((1:Nat):Int) /\ 1 < c] λ _=>?_
 exact RN.ret [] [] [] ⟨rfl,rfl⟩
theorem mnew_ap (q c:Nat) (xs:List Int) (F:HL) (hq:(q,.rows 1 c (irow xs) 3 (0,0)) ∈ F) (hc:xs.length <= c) (hl:xs.length <= 1000000):Sp Tryz.prog 69 #[vS q 0 xs.length c] (ap [] []) F (λ u H'=>∃ x:Nat × Nat × Nat,H'=ap [(x.1,.lit [vI (hgtN xs.length:Int),vS x.2.1 0 xs.length xs.length,vS x.2.2 0 (2 * szN xs.length) (2 * szN xs.length)] 175 (0,0)),(x.2.2,.rows 1 (2 * szN xs.length) (urow (inF xs (szN xs.length) (szN xs.length - 1))) 66 (0,0))] [] /\ u=vP x.1 0):=mnew_any q c xs F hq hc hl
theorem mroot_any (q c:Nat) (xs:List Int) (F:HL) (hq:(q,.rows 1 c (irow xs) 3 (0,0)) ∈ F) (hc:xs.length <= c) (hl:xs.length <= 1000000):Sp Tryz.prog 48 #[vS q 0 xs.length c] [] F (λ u H'=>u=.int .u64 (rootF xs) /\ H'=[]):=by
 refine Sp.run Tryz.func48 rfl (mc hq mn) (A:=[]) (Ts:=[]) rfl λ w0=>?_
 refine RN.go 8 [] λ _=>RN.ct (Hp:=[]) (Tp:=[]) [] [] (mnew_ap q c xs _ (ro_ap hq) hc hl) ?_
 rintro _ ⟨t1,c2,n3⟩ rfl
 refine RN.cp (troot_any t1 c2 n3 xs.length (2 * szN xs.length) (hgtN xs.length) (inF xs (szN xs.length) (szN xs.length - 1)) _ (in_ap 0) (in_ap 1) (by have:=(hgt_bd hl).2.2.1;omega))<|RN.go 3 [] λ _=>?_
 exact RN.ret [] [] [] ⟨rfl,rfl⟩
theorem groot_any (S:Setup) (bp gb mb:Nat) (M:MemS) (k:Nat) (T F:HL) (hg:(gb,.lit (gameL S bp mb) 88 (0,0)) ∈ F) (hM:MemH mb M k T) (hT:∀ x ∈ T,x ∈ F):Sp Tryz.prog 25 #[vP gb 0] [] F (λ u H'=>u=.int .u64 (rootF M.cs) /\ H'=[]):=by
 refine Sp.run Tryz.func25 rfl (mc hg mn) (A:=[]) (Ts:=[]) rfl λ w0=>?_
 refine RN.go 11 [.ro 0] λ _=>RN.ct (Hp:=[]) (Tp:=[]) [] [] (cells_ap mb M k T _ hM (λ x hx=>ro_ap (hT x hx))) ?_
 rintro _ q1 rfl
 refine RN.cp (mroot_any q1 M.cs.length M.cs _ (in_ap 0) (Nat.le_refl _) hM.len)<|RN.go 3 [] λ _=>?_
 exact RN.ret [] [] [] ⟨rfl,rfl⟩
theorem grootH {rs:List Bx} {ds:List Dr} {bp gb:Nat} {S:Setup} {M:MemS} {k:Nat} {T F:HL} (h:GameH rs ds bp gb S M k T) (hF:∀ x ∈ T,x ∈ F):Sp Tryz.prog 25 #[vP gb 0] [] F (λ u H'=>u=.int .u64 (rootF M.cs) /\ H'=[]):=by
 cases h with
 | mk mb T1 U hM hU=>exact groot_any S bp gb mb M k T1 F (hF _ (by simp [ap])) hM λ x hx=>hF x (by simp [ap,hx])
theorem gnowH {rs:List Bx} {ds:List Dr} {bp gb:Nat} {S:Setup} {M:MemS} {k:Nat} {T F:HL} (h:GameH rs ds bp gb S M k T) (hF:∀ x ∈ T,x ∈ F):Sp Tryz.prog 17 #[vP gb 0] [] F (λ u H'=>u=vI (M.get 0) /\ H'=[]):=by
 cases h with
 | mk mb T1 U hM hU=>exact gnow_any S bp gb mb M k T1 F (hF _ (by simp [ap])) hM λ x hx=>hF x (by simp [ap,hx])
open Go.Shelf
def slA (A:Option Addr) (l sz cap:Nat):Option Addr:=if cap=l then A else A.map (·.add (l * sz))
def slV (P:Program) (o:Oper) (L:FL):Option (Option Addr × Nat × Nat × Int × Nat):=match o.guard,o.op with
  | none,.slice t x (some lo) none none=>match inL L x && inL L lo,P.underlying t,rho L x,rho L lo with
    | true,some (.slice elem),.slice a len cap,.int .i64 l=>match P.info? elem with
      | some inf=>some (a,len,cap,l,inf.size)
      | none=>none
    | _,_,_,_=>none
  | _,_=>none
def slK (P:Program) (N:Nat) (oo:Option Oper) (s:Cfg):Option (Option Addr × Nat × Nat × Int × Nat):=match oo with
  | some o=>match slV P o s.L,(putL N o.dst undef s.L).isSome with
    | some x,true=>some x
    | _,_=>none
  | none=>none
section
variable {r:Option Nat} {P:Program} {N:Nat} {D:List Deferred} {F:HL} {w0:World} {R:HL} {s:Cfg} {Q:Exit -> Act -> World -> Prop}
theorem slV_spec {o:Oper} {L:FL} {A:Option Addr} {n cap sz:Nat} {l:Int} (h:slV P o L=some (A,n,cap,l,sz)) :
    ∃ t x lo elem inf,o.guard=none /\ o.op=.slice t x (some lo) none none /\ (inL L x && inL L lo)=true /\ P.underlying t=some (.slice elem) /\ rho L x=.slice A n cap /\ rho L lo=.int .i64 l /\ P.info? elem=some inf /\ inf.size=sz:=by
  unfold slV at h
  split at h
  case h_2=>cases h
  rename_i t x lo hg hop
  split at h
  case h_2=>cases h
  rename_i elem a len cp l' h1 h2 h3 h4
  split at h
  case h_2=>cases h
  rename_i inf h5
  simp only [Option.some.injEq,Prod.mk.injEq] at h
  obtain ⟨e1,e2,e3,e4,e5⟩:=h
  subst e1;subst e2;subst e3;subst e4
  exact ⟨t,x,lo,elem,inf,hg,hop,h1,h2,h3,h4,h5,e5⟩
theorem RN.slA {A:Option Addr} {n cap l sz:Nat} {li:Int} (hl:li=(l:Int)) (h1:l <= n) (h2:n <= cap) (hk:RN r P N D F w0 R (putC N (.slice (slA A l sz cap) (n - l) (cap - l)) s) Q)
    (h:slK P N (opAt s) s=some (A,n,cap,li,sz):=by kernel_rfl):RN r P N D F w0 R s Q:=by
  unfold slK at h
  split at h
  case h_2=>cases h
  rename_i o q0
  split at h
  case h_2=>cases h
  rename_i y hv hp
  simp only [Option.some.injEq] at h
  rw [h] at hv
  clear h
  obtain ⟨t,x,lo,elem,inf,q1,q2,q3,q4,q5,q6,q7,q8⟩:=slV_spec hv
  refine ⟨λ hR aa w hF hRel hB=>?_⟩
  obtain ⟨c,k,L,Bs,Ts⟩:=s
  unfold opAt at q0
  cases c with
  | code c=>cases q0
  | ex c=>cases q0
  | drw _ _=>cases q0
  | ops ops pc =>
    simp only at q0 q3 q5 q6 hp hF hRel
    have hdrop:ops.toList.drop pc=o :: ops.toList.drop (pc+1):=by
      have hlt:pc < ops.toList.length:=(List.getElem?_eq_some_iff.1 q0).1
      rw [List.drop_eq_getElem_cons hlt,(List.getElem?_eq_some_iff.1 q0).2]
    show wpListIn _ _ _ _ _ _ _ _
    rw [hdrop,wpListIn,if_pos (by simp [Region.wanted,q1])]
    refine ⟨λ _ _=>trivial,?_⟩
    have key:gives P o aa w λ u w'=>u=.slice (slA A l sz cap) (n - l) (cap - l) /\ Rel (ap Bs Ts++F) w' /\ Below 0 w w':=by
      simp only [Bool.and_eq_true] at q3
      have e1:=(hF.eval q3.1).trans q5
      have e2:=(hF.eval q3.2).trans q6
      have k1:=bounds_run (P:=P) (ρ:=aa.eval) (lo:=some lo) (hi:=none) (l:=l) (h:=n) (len:=n) (cap:=cap) (by show bnd _ _ _ _;unfold bnd;simp only [e2];exact hl) rfl h1 h2 w
      have k2:=λ W=>info_run q7 W
      have k3:=λ W=>und_run q4 W
      unfold gives
      have he:(execOp aa.eval o).run P w=.ok (.value (.slice (slA A l sz cap) (n - l) (cap - l))) w:=by
        rw [show Option.map aa.eval none=none from rfl,show Option.map aa.eval (some lo)=some (aa.eval lo) from rfl] at k1
        simp [execOp,q2,Instr.sliceAt,Instr.slice,e1,k3,Go.sizeOf,k2,Sem.run_bind,k1,slA,q8]
      rw [he]
      exact ⟨rfl,hRel,Below.refl _ _⟩
    refine gives_upon (by rw [q2];intro c hc;cases hc) key ?_
    rintro u w' ⟨rfl,hR',hB'⟩
    obtain ⟨L',p1⟩:=putL_some hp (.slice (slA A l sz cap) (n - l) (cap - l))
    have hh:=hk.h hR
    have hpc:putC N (.slice (slA A l sz cap) (n - l) (cap - l)) ⟨.ops ops pc,k,L,Bs,Ts⟩=⟨.ops ops (pc+1),k,L',Bs,Ts⟩:=by
      unfold putC
      simp only [q0,p1]
    rw [hpc] at hh
    exact hh _ w' (hF.put p1) hR' (hB.trans hB')
end
section
variable {α:Type} {e:Enc α} {T:TypeId} {F:HL} {A:Option Addr} {n cap:Nat} {xs:List α} {Hl:HL}
theorem RowL.take (h:RowL e T F A n xs) {k:Nat} (hk:k <= n):RowL e T F A k (xs.take k):=by
  cases h with
  | zero =>
    obtain rfl:k=0:=by omega
    exact .zero _
  | rows q o N full fz n xs hq ho hn hx =>
    refine .rows q o N full fz k _ hq (by omega) (by rw [List.length_take];omega) (λ i hi=>?_)
    rw [hx i (by omega),List.getD_eq_getElem?_getD,List.getD_eq_getElem?_getD,List.getElem?_take,if_pos hi]
theorem SlIs.drop (h:SlIs e T xs A cap Hl) (hF:∀ x ∈ Hl,x ∈ F) (hn:xs.length=n) {k:Nat} (hk:k <= n):RowL e T F (slA A k e.w cap) (n - k) (xs.drop k):=by
  subst hn
  have hr:=h.toRowL hF
  rcases h with ⟨rfl,rfl,rfl,rfl⟩ | ⟨b,o,full,rfl,rfl,h1,h2,h3⟩
  · have:k=0:=by simpa using hk
    subst this
    exact .zero _
  · by_cases hc:cap=k
    · have e1:xs.length - k=0:=by omega
      have e2:xs.drop k=[]:=List.eq_nil_of_length_eq_zero (by rw [List.length_drop];omega)
      rw [e1,e2]
      exact .zero _
    · have e1:slA (some ⟨b,o * e.w,none⟩) k e.w cap=some ⟨b,(o+k) * e.w,none⟩:=by
        unfold slA
        rw [if_neg hc,Option.map_some,add_addN rfl]
        simp [addN,Nat.add_mul]
      rw [e1]
      refine .rows b (o+k) (o+cap) full (0,0) _ _ (hF _ (List.mem_singleton.2 rfl)) (by omega) (by simp) (λ i hi=>?_)
      have h4:((full.drop o).take xs.length)[k+i]?=xs[k+i]?:=by rw [h3]
      rw [List.getElem?_take,if_pos (by omega),List.getElem?_drop] at h4
      rw [List.getD_eq_getElem?_getD,List.getD_eq_getElem?_getD,List.getElem?_drop,<- h4,Nat.add_assoc]
end
def J2 (j1 j2 i:Nat):Nat × Int:=if (2:Int) > (i:Int) then (j1,0) else (j2,1)
theorem at_j2 {j1 j2 bp:Nat} {TB F:HL} (hB:Book2 j1 j2 bp TB) (hT:∀ x ∈ TB,x ∈ F) (hj1:j1 < 5) (hj2:j2 < 5) {t:Nat} {v:Int} (e:v=(t:Int)):(J2 j1 j2 t).1 < 5 /\ AtOk F bp v (J2 j1 j2 t):=by
  subst e
  refine ⟨?_,hB.at hT hj1 hj2 _ (by omega)⟩
  unfold J2
  split
  · exact hj1
  · exact hj2
theorem plM_cs (G:Nat -> Gm) {M N:MemS} (h:M.cs=N.cs):∀ n,(plM G M n).cs=(plM G N n).cs
  | 0=>h
  | n+1=>by rw [plM,plM];exact tkM_cs _ (plM_cs G h n)
theorem plE_cs (G:Nat -> Gm) {M N:MemS} (h:M.cs=N.cs):∀ n,plE G M n=plE G N n
  | 0=>rfl
  | n+1=>by rw [plE,plE,plE_cs G h n,tkE_cs _ (plM_cs G h n)]
theorem TE2.cs {S:Setup} {t:Int} {M N:MemS} (h:M.cs=N.cs) (hT:TE2 S t M):TE2 S t N:=by
  have hg:∀ k,N.get k=M.get k:=λ k=>by unfold MemS.get;rw [h]
  exact ⟨by rw [<- h];exact hT.len,λ k h1 h2=>by rw [hg];exact hT.z k h1 h2,by rw [hg];exact hT.t0⟩
theorem pl_okT {S1:Setup} (hV:SetV S1) {t:Nat} {M0:MemS} (hT:TE2 S1 (t:Int) M0) {xss:List (List Inp)} (J:Nat -> Nat × Int) (n:Nat) (hn:t+n <= 50) (hr:∀ i,i < n -> RowOk S1.players (xss.getD i [])):∀ i,i <= n -> TE2 S1 ((t+i:Nat):Int) (plM (rG S1 J xss) M0 i)
  | 0,_=>hT
  | i+1,h=>by
    have ih:=pl_okT hV hT J n hn hr i (by omega)
    have:=(tk_ok1 hV (t:=((t+i:Nat):Int)) (by omega) ih (hr i (by omega)).1 (hr i (by omega)).2 (J i)).2
    rw [plM]
    exact_mod_cast this
theorem pl_tkT {S1:Setup} (hV:SetV S1) {t:Nat} {M0:MemS} (hT:TE2 S1 (t:Int) M0) {xss:List (List Inp)} (J:Nat -> Nat × Int) (n:Nat) (hn:t+n <= 50) (hr:∀ i,i < n -> RowOk S1.players (xss.getD i [])) (i:Nat) (hi:i < n):TkOk S1 (J i) (xss.getD i []) (plM (rG S1 J xss) M0 i) :=
  (tk_ok1 hV (t:=((t+i:Nat):Int)) (by omega) (pl_okT hV hT J n hn hr i (by omega)) (hr i hi).1 (hr i hi).2 (J i)).1
theorem RwsIn.take {F:HL} {rs:List Rw} {xss:List (List Inp)} (h:RwsIn F rs xss) (k:Nat):RwsIn F (rs.take k) (xss.take k):=by
  refine ⟨by rw [List.length_take,List.length_take,h.len],λ i hi=>?_⟩
  rw [List.length_take] at hi
  have e1:(xss.take k).getD i []=xss.getD i []:=by rw [List.getD_eq_getElem?_getD,List.getD_eq_getElem?_getD,List.getElem?_take,if_pos (by omega)]
  have e2:(rs.take k).getD i rwE.dflt=rs.getD i rwE.dflt:=by rw [List.getD_eq_getElem?_getD,List.getD_eq_getElem?_getD,List.getElem?_take,if_pos (by omega)]
  rw [e1,e2]
  exact h.row i (by omega)
theorem RwsIn.drop {F:HL} {rs:List Rw} {xss:List (List Inp)} (h:RwsIn F rs xss) (k:Nat):RwsIn F (rs.drop k) (xss.drop k):=by
  refine ⟨by rw [List.length_drop,List.length_drop,h.len],λ i hi=>?_⟩
  rw [List.length_drop] at hi
  have e1:(xss.drop k).getD i []=xss.getD (k+i) []:=by rw [List.getD_eq_getElem?_getD,List.getD_eq_getElem?_getD,List.getElem?_drop]
  have e2:(rs.drop k).getD i rwE.dflt=rs.getD (k+i) rwE.dflt:=by rw [List.getD_eq_getElem?_getD,List.getD_eq_getElem?_getD,List.getElem?_drop]
  rw [e1,e2]
  exact h.row (k+i) (by omega)
theorem rows_take {pl:Int} {xss:List (List Inp)} {n k:Nat} (h:∀ i,i < n -> RowOk pl (xss.getD i [])) (hk:k <= n):∀ i,i < k -> RowOk pl ((xss.take k).getD i []):=λ i hi=>by
  rw [List.getD_eq_getElem?_getD,List.getElem?_take,if_pos hi,<- List.getD_eq_getElem?_getD]
  exact h i (by omega)
theorem rows_drop {pl:Int} {xss:List (List Inp)} {n k:Nat} (h:∀ i,i < n -> RowOk pl (xss.getD i [])):∀ i,i < n - k -> RowOk pl ((xss.drop k).getD i []):=λ i hi=>by
  rw [List.getD_eq_getElem?_getD,List.getElem?_drop,<- List.getD_eq_getElem?_getD]
  exact h (k+i) (by omega)
abbrev J2t (j1 j2 t:Nat):Nat -> Nat × Int:=λ i=>J2 j1 j2 (t+i)
section
variable {S S1 S2:Setup} {rs_:List Bx} {ds_:List Dr} {bp gb n cap k t j1 j2:Nat} {A:Option Addr} {rs:List Rw} {xss:List (List Inp)} {M R:MemS} {G0 F TB:HL}
theorem play_j2 (hV:SetV S) (h1:SetEq S S1) (h2:SetEq S S2) (hG:GameH rs_ ds_ bp gb S1 M (k+20000 * n) G0) (hE:EffIn F) (hr:RowL rwE 44 F A n rs) (hw:RwsIn F rs xss) (hrow:∀ i,i < n -> RowOk S.players (xss.getD i [])) (hn:t+n <= 50) (hT:TE2 S1 (t:Int) M) (hR:M.cs=R.cs) (hB:Book2 j1 j2 bp TB) (hTB:∀ x ∈ TB,x ∈ F) (hj1:j1 < 5) (hj2:j2 < 5) :
    Sp Tryz.prog 21 #[vP gb 0,.slice A n cap] (ap [] [G0]) F (λ u H'=>∃ x:(MemS × Option Addr × Nat) × HL × HL,H'=ap [] [x.2.1,x.2.2] /\
      (GameH rs_ ds_ bp gb S1 x.1.1 k x.2.1 /\ (x.1.1.cs=(plM (rG S2 (J2t j1 j2 t) xss) R n).cs /\ TE2 S1 ((t+n:Nat):Int) x.1.1) /\ SlIs effE 99 (plE (rG S2 (J2t j1 j2 t) xss) R n) x.1.2.1 x.1.2.2 x.2.2 /\ u=.tuple #[.slice x.1.2.1 (plE (rG S2 (J2t j1 j2 t) xss) R n).length x.1.2.2,.bool true])):=by
  have hV1:=h1.setV hV
  have hp:=hV.pl
  have hrow1:∀ i,i < n -> RowOk S1.players (xss.getD i []):=λ i hi=>by rw [h1.pl];exact hrow i hi
  have hok:=pl_okT hV1 hT (J2t j1 j2 t) n hn hrow1
  refine (play_run rs_ ds_ S1 bp gb n cap k (J2t j1 j2 t) A rs xss M G0 F hG hE hr hw (λ i hi=>by have:=(hrow i hi).1;omega) (by omega) (λ i hi=>at_j2 hB hTB hj1 hj2 (hok i (by omega)).t0) (λ i hi=>pl_tkT hV1 hT (J2t j1 j2 t) n hn hrow1 i hi)).mono λ u H' h=>?_
  obtain ⟨⟨⟨A2,c2⟩,G2,E2⟩,rfl,h3,h4,h5⟩:=h
  dsimp only at h3 h4
  have e1:plE (rG S1 (J2t j1 j2 t) xss) M n=plE (rG S2 (J2t j1 j2 t) xss) R n:=by rw [plE_eq (rG_eq h1 h2 (J2t j1 j2 t) xss) M n,plE_cs _ hR]
  have e2:(plM (rG S1 (J2t j1 j2 t) xss) M n).cs=(plM (rG S2 (J2t j1 j2 t) xss) R n).cs:=by rw [plM_eq (rG_eq h1 h2 (J2t j1 j2 t) xss) M n];exact plM_cs _ hR n
  rw [e1] at h4 h5
  exact ⟨((_,A2,c2),G2,E2),rfl,h3,⟨e2,hok n (Nat.le_refl _)⟩,h4,h5⟩
theorem restore_ok {q:Nat} {M1:MemS} (h1:SetEq S S1) (hG:GameH rs_ ds_ bp gb S1 M (k+n) G0) (hq:(q,.rows 1 M1.cs.length (irow M1.cs) 3 (0,0)) ∈ F) (hn:M1.cs.length=n) (hl:M.cs.length=n) (h48:48 <= n) (hT:TE2 S1 (t:Int) M1) (ht:t <= 6000) :
    Sp Tryz.prog 24 #[vP gb 0,vS q 0 M1.cs.length cap] (ap [] [G0]) F (λ u H'=>∃ x:MemS × HL,H'=ap [] [x.2] /\ (u=vI 0 /\ x.1.cs=M1.cs /\ GameH rs_ ds_ bp gb S1 x.1 k x.2)):=by
  have hg:∀ i:Nat,i < n -> M1.get (i:Int)=M1.cs.getD i 0:=λ i hi=>by
    unfold MemS.get
    rw [if_pos (by omega),Int.toNat_natCast]
  have hz:∀ i:Nat,1 <= i -> i <= 10 -> M1.cs.getD i 0=0:=λ i ha hb=>by rw [<- hg i (by omega)];exact hT.z _ (by omega) (by omega)
  have h0:M1.cs.getD 0 0=(t:Int):=by rw [<- hg 0 (by omega)];exact hT.t0
  have hb:btwP M1.cs:=⟨⟨hz 1 (by omega) (by omega),hz 2 (by omega) (by omega),hz 3 (by omega) (by omega),hz 4 (by omega) (by omega),hz 5 (by omega) (by omega),hz 6 (by omega) (by omega),hz 7 (by omega) (by omega),hz 8 (by omega) (by omega),hz 9 (by omega) (by omega),hz 10 (by omega) (by omega)⟩,by omega,by omega⟩
  have hk:k+n=k+M1.cs.length:=by omega
  rw [hk] at hG
  refine (restore_any rs_ ds_ S1 bp gb M1.cs q M1.cs.length M1.cs.length cap M k G0 F hG hq (Nat.le_refl _) (by omega)).mono λ u H' h=>?_
  obtain ⟨x,rfl,h⟩:=h
  rcases h with ⟨_,h3,h4⟩ | ⟨h3,_⟩
  · refine ⟨(_,x),rfl,h3,?_,h4⟩
    show (resM M1.cs M M1.cs.length).cs=M1.cs
    rw [resM_all (by omega) (Nat.le_refl _),List.take_length]
  · exact absurd ⟨by omega,hb⟩ h3
end
end Go.Proofs.YtgibcbhfmomfbaaGreatDoor
