import Derived.Test.YtcfajdgeejeieaaGreatDoorR46
import Derived.Laws.IdiomStrings
set_option maxHeartbeats 4000000
set_option maxRecDepth 100000
set_option linter.unusedSimpArgs false
set_option linter.unusedVariables false
namespace Go.Proofs.YtcfajdgeejeieaaGreatDoor
open Go.RowKit
def leafH (i v:Int):Int:=sumH ⟨#[108,101,97,102]⟩ [i,v]
def pairH (a b:Int):Int:=sumH ⟨#[112,97,105,114]⟩ [w64 a,w64 b]
def emptyH:Int:=sumH ⟨#[101,109,112,116,121]⟩ []
def hgtN (n:Nat):Nat:=if n <= 1 then 0 else Lib.bitLen (n - 1)
def szN (n:Nat):Nat:=2 ^ hgtN n
theorem hgt_lo {n:Nat} (h:(n:Int) <= 1):hgtN n=0:=by
 unfold hgtN
 rw [if_pos (by omega)]
theorem hgt_hi {n:Nat} (hl:n <= 1000000) (h:¬ (n:Int) <= 1):blen ((n:Int) - 1)=(hgtN n:Int):=by
 unfold hgtN blen
 rw [if_neg (by omega)]
 have e:(w64u ((n:Int) - 1)).toNat=n - 1:=by
  rw [show w64u ((n:Int) - 1)=(n:Int) - 1 by rw [w64u,IntKind.wrap];simp [IntKind.signed,IntKind.bits];omega]
  omega
 rw [e]
theorem bl_bd:∀ (f x:Nat),x < 2 ^ f -> x ≠ 0 -> ∃ m,Lib.bitLenAux f x=m+1 /\ 2 ^ m <= x /\ x < 2 ^ (m+1)
 | 0,x,h,h0=>absurd (by simpa using h) h0
 | f+1,x,h,h0=>by
  rw [Lib.bitLenAux,if_neg h0]
  by_cases h2:x / 2=0
  ·have e:Lib.bitLenAux f (x / 2)=0:=by rw [h2];cases f <;> simp [Lib.bitLenAux]
   rw [e]
   exact ⟨0,rfl,by simp;omega,by simp;omega⟩
  ·obtain ⟨m,e,h3,h4⟩:=bl_bd f (x / 2) (by rw [Nat.pow_succ] at h;omega) h2
   rw [e]
   exact ⟨m+1,by omega,by rw [Nat.pow_succ];omega,by rw [Nat.pow_succ];omega⟩
theorem hgt_bd {n:Nat} (h:n <= 1000000):hgtN n <= 20 /\ n <= szN n /\ 1 <= szN n /\ szN n <= 2000000:=by
 unfold szN hgtN
 by_cases h1:n <= 1
 ·rw [if_pos h1]
  simp
  omega
 ·rw [if_neg h1]
  obtain ⟨m,e,b2,b3⟩:=bl_bd 64 (n - 1) (by omega) (by omega)
  rw [show Lib.bitLen (n - 1)=m+1 from e]
  have hm:m < 20:=by
   apply Classical.byContradiction
   intro hn
   have:=Nat.pow_le_pow_right (n:=2) (by omega) (show 20 <= m by omega)
   omega
  rw [Nat.pow_succ] at b3 ⊢
  omega
theorem sz_eq {n:Nat} (h:n <= 1000000):IntKind.i64.wrap (1 * 2 ^ min ((hgtN n:Int)).toNat 64)=(szN n:Int):=by
 obtain ⟨h1,h2,h3,h4⟩:=hgt_bd h
 rw [Int.toNat_natCast,Nat.min_eq_left (by omega),IntKind.wrap_i64]
 have e:(1:Int) * 2 ^ hgtN n=(szN n:Int):=by
  unfold szN
  rw [Int.one_mul]
  norm_cast
 rw [e]
 omega
def urow (f:Nat -> Int):Nat -> Nat -> Value:=λ i k=>match k with | 0=>.int .u64 (f i) | _=>default
def updI (f:Nat -> Int) (i:Nat) (v:Int):Nat -> Int:=λ j=>if j=i then v else f j
theorem urow_upd (f:Nat -> Int) (i:Nat) (v:Int):updG (urow f) i 0 (.int .u64 v)=urow (updI f i v):=by
 funext j k
 unfold updG urow updI
 cases k with
 | zero=>by_cases h:j=i <;> simp [h]
 | succ k=>simp
def lfF (xs:List Int) (sz:Nat):Nat -> Nat -> Int
 | 0=>λ _=>0
 | i+1=>updI (lfF xs sz i) (sz+i) (leafH i (xs.getD i 0))
def emF (xs:List Int) (sz:Nat):Nat -> Nat -> Int
 | 0=>lfF xs sz xs.length
 | m+1=>updI (emF xs sz m) (sz+(xs.length+m)) emptyH
def inF (xs:List Int) (sz:Nat):Nat -> Nat -> Int
 | 0=>emF xs sz (sz - xs.length)
 | m+1=>updI (inF xs sz m) (sz - 1 - m) (pairH (inF xs sz m (2 * (sz - 1 - m))) (inF xs sz m (2 * (sz - 1 - m)+1)))
def rootF (xs:List Int):Int:=inF xs (szN xs.length) (szN xs.length - 1) 1
theorem urow_zero (xs:List Int) (sz:Nat):zrow [.int .u64 0]=urow (lfF xs sz 0):=by
 funext j k
 cases k with
 | zero=>rfl
 | succ k=>simp [zrow,urow]
theorem em_next {xs:List Int} {sz j:Nat} (h:xs.length <= j):updI (emF xs sz (j - xs.length)) (sz+j) emptyH=emF xs sz (j+1 - xs.length):=by
 rw [show j+1 - xs.length=(j - xs.length)+1 by omega,emF,show xs.length+(j - xs.length)=j by omega]
theorem in_next {xs:List Int} {sz k:Nat} (h:k+1 <= sz) (h1:1 <= k):updI (inF xs sz (sz - 1 - k)) k (pairH (inF xs sz (sz - 1 - k) (2 * k)) (inF xs sz (sz - 1 - k) (2 * k+1)))=inF xs sz (sz - 1 - (k - 1)):=by
 rw [show sz - 1 - (k - 1)=(sz - 1 - k)+1 by omega,inF,show sz - 1 - (sz - 1 - k)=k by omega]
theorem rows_irow (xs:List Int) {n:Nat} (h:xs.length=n):rowsOf 1 (irow xs) n=xs.map vI:=by
 refine rowsOf_ext (by simpa using h) λ i k hi hk=>?_
 obtain rfl:k=0:=by omega
 have hi2:i < xs.length:=by omega
 simp [irow,List.getD_eq_getElem?_getD,List.getElem?_eq_getElem hi2]
theorem irow_src {q c:Nat} {ty:TypeId} {xs:List Int} {H F:HL} (hq:(q,.rows 1 c (irow xs) ty (0,0)) ∈ H++F) (hc:xs.length <= c):∀ w,Rel (H++F) w -> ∀ j v,(xs.map vI)[j]?=some v -> w.cell? (Addr.add ⟨q,0,none⟩ j)=some v:=by
 intro w hr j v hv
 have hj:j < xs.length:=by
  have:=(List.getElem?_eq_some_iff.1 hv).1
  simpa using this
 have hb:=hr.holds _ hq
 rw [show Addr.add ⟨q,0,none⟩ j=⟨q,j,none⟩ by unfold Addr.add;split <;> simp_all,cell_rows (i:=j) (k:=0) hb rfl rfl (by simp) (by omega) (by omega)]
 rw [<- hv]
 simp [irow,List.getD_eq_getElem?_getD,List.getElem?_eq_getElem hj]
theorem one_vI {xs:List Int}:∀ v ∈ xs.map vI,v.oneCell'=true:=by
 intro v hv
 obtain ⟨x,_,rfl⟩:=List.mem_map.1 hv
 rfl
theorem hsum_nil (b:ByteArray) (F:HL) (hb:b.size <= 1000000):Sp Tryz.prog 47 #[.string b,.slice none 0 0] [] F (λ u H'=>u=.int .u64 (sumH b []) /\ H'=[]):=by
 refine Sp.run Tryz.func47 rfl mn (A:=[]) (Ts:=[]) rfl λ w0=>?_
 refine RN.go 10 [] λ _=>RN.cp (hbegin_any b 0 _ (by assumption))<|RN.go 12 [] λ _=>RN.rounds 1<|RN.go 15 [] λ _=>RN.cp (mix_any (beginH b 0) 0 _)<|RN.go 3 [] λ _=>?_
 exact RN.ret [] [] [] ⟨rfl,rfl⟩
theorem height_any (n:Nat) (F:HL) (hl:n <= 1000000):Sp Tryz.prog 45 #[vI (n:Int)] [] F (λ u H'=>u=vI (hgtN n:Int) /\ H'=[]):=by
 refine Sp.run Tryz.func45 rfl mn (A:=[]) (Ts:=[]) rfl λ w0=>?_
 refine RN.go 12 [] λ _=>RN.em ((n:Int) <= 1) 4 (λ h1=>?_) λ h1=>?_
 ·refine RN.go 6 [] λ _=>RN.ret [] [] [] (v:=vI 0) (H':=[]) ?_
  exact ⟨congrArg (λ x:Nat=>vI (x:Int)) (hgt_lo (by assumption)).symm,rfl⟩
 ·refine RN.goP 8 [.nw] [I64 ((n:Int) - 1)] λ _=>RN.cp (blen_any ((n:Int) - 1) _)<|RN.go 3 [] λ _=>RN.ret [] [] [] (v:=vI (blen ((n:Int) - 1))) (H':=[]) ?_
  exact ⟨congrArg vI (hgt_hi hl (by assumption)),rfl⟩
theorem leafh_any (i v:Int) (F:HL):Sp Tryz.prog 46 #[vI i,vI v] [] F (λ u H'=>u=.int .u64 (leafH i v) /\ H'=[]):=by
 refine Sp.run Tryz.func46 rfl mn (A:=[]) (Ts:=[]) rfl λ w0=>?_
 refine RN.go 10 [] λ n1=>RN.dn 0 (.rows 1 2 (irow [i,v]) 3 (0,0))<|RN.cp (hsum_any (⟨#[108,101,97,102]⟩) ([i,v]) (n1+0) 2 _ (by decide) (Nat.le_of_ble_eq_true rfl) (Nat.le_of_ble_eq_true rfl) (in_ap 0))<|RN.go 3 [] λ _=>?_
 exact RN.ret [] [] [] ⟨rfl,rfl⟩
theorem pairh_any (a b:Int) (F:HL):Sp Tryz.prog 48 #[.int .u64 a,.int .u64 b] [] F (λ u H'=>u=.int .u64 (pairH a b) /\ H'=[]):=by
 refine Sp.run Tryz.func48 rfl mn (A:=[]) (Ts:=[]) rfl λ w0=>?_
 refine RN.go 12 [] λ n1=>RN.dn 0 (.rows 1 2 (irow [IntKind.i64.wrap a,IntKind.i64.wrap b]) 3 (0,0))<|RN.cp (hsum_any (⟨#[112,97,105,114]⟩) ([IntKind.i64.wrap a,IntKind.i64.wrap b]) (n1+0) 2 _ (by decide) (Nat.le_of_ble_eq_true rfl) (Nat.le_of_ble_eq_true rfl) (in_ap 0))<|RN.go 3 [] λ _=>?_
 exact RN.ret [] [] [] ⟨rfl,rfl⟩
theorem mnew_any (q c:Nat) (xs:List Int) (F:HL) (hq:(q,.rows 1 c (irow xs) 3 (0,0)) ∈ F) (hc:xs.length <= c) (hl:xs.length <= 1000000):Sp Tryz.prog 12 #[vS q 0 xs.length c] [] F (λ u H'=>∃ x:Nat × Nat × Nat,H'=ap [(x.1,.lit [vI (hgtN xs.length:Int),vS x.2.1 0 xs.length xs.length,vS x.2.2 0 (2 * szN xs.length) (2 * szN xs.length)] 107 (0,0)),(x.2.1,.rows 1 xs.length (irow xs) 3 (0,0)),(x.2.2,.rows 1 (2 * szN xs.length) (urow (inF xs (szN xs.length) (szN xs.length - 1))) 50 (0,0))] [] /\ u=vP x.1 0):=by
 obtain ⟨hb1,hb2,hb3,hb4⟩:=hgt_bd hl
 have he:=sz_eq hl
 obtain ⟨sz,hsz⟩:∃ sz,szN xs.length=sz:=⟨_,rfl⟩
 rw [hsz] at hb2 hb3 hb4 he
 refine Sp.run Tryz.func12 rfl (mc hq mn) (A:=[]) (Ts:=[]) rfl λ w0=>?_
 refine RN.go 9 [] λ _=>RN.cp (height_any xs.length _ hl)<|RN.goP 11 [.dv] [0 <= (hgtN xs.length:Int)] λ _=>RN.draw [] []<|RD.sv 4 (congrArg (λ v_=>(vI v_:Value)) he)<|RD.goP [] [0,1,4,2,5] [.nw] [I64 (2 * (sz:Int))]<|RD.haveK (σ:=Nat × Nat × Nat) (λ ⟨n1,n2,n3⟩=>⟨[(0,vS q 0 xs.length c),(4,vI (sz:Int)),(5,vP (n3+0) 0)],[((n3+0),.lit [vI (hgtN xs.length:Int),vS (n1+0) 0 xs.length xs.length,vS (n2+0) 0 (2 * sz) (2 * sz)] 107 (0,0)),((n2+0),.rows 1 (2 * sz) (zrow [.int .u64 0]) 50 (0,0)),((n1+0),.rows 1 xs.length (zrow [vI 0]) 3 (0,0))],[],True,0⟩) ?_ ?_
 ·rintro ⟨n1,n2,n3⟩
  refine RN.go 8 [.own 0] λ _=>RN.cpy (b:=(n1+0)) (n:=xs.length) (cap:=xs.length) (m:=xs.length) (c':=c) (a:=⟨q,0,none⟩) (T:=3) (t:=22) (tx:=22) (ty:=3) (g:=(zrow [vI 0])) 2 (.rows 1 xs.length (irow xs) 3 (0,0)) (xs.map vI) (by simp) rfl one_vI rfl (irow_src (List.mem_append_right _ hq) hc) (congrArg (λ l:List Value=>(Obj.cells ⟨l⟩ 3 (0,0))) (rows_irow xs rfl))<|RN.go 11 [] λ _=>RN.bv 1 (congrArg (λ v_=>(.rows 1 (2 * sz) v_ 50 (0,0):Blk)) (show (zrow [.int .u64 0])=(urow (lfF xs sz 0)) from urow_zero xs sz))<|RN.loop (σ:=Nat) (λ i=>⟨[(0,vS q 0 xs.length c),(4,vI (sz:Int)),(5,vP (n3+0) 0),(31,vS q 0 xs.length c),(32,vI (xs.length:Int)),(33,vI (i:Int))],[((n3+0),.lit [vI (hgtN xs.length:Int),vS (n1+0) 0 xs.length xs.length,vS (n2+0) 0 (2 * sz) (2 * sz)] 107 (0,0)),((n2+0),.rows 1 (2 * sz) (urow (lfF xs sz i)) 50 (0,0)),((n1+0),.rows 1 xs.length (irow xs) 3 (0,0))],[],i <= xs.length,xs.length - i⟩) 0 [0,1,2] [] (Nat.zero_le _) ?_
  rintro i hI4 mt5
  refine RN.go 6 [] λ _=>RN.em ((i:Int) < (xs.length:Int)) 34 (λ h6=>?_) λ h6=>?_
  ·refine RN.goP 14 [.ix i,.rorow 0 i 0] [(0+i * 1)=i * 1+0 /\ i < c,(i:Int)=((i:Nat):Int) /\ i < xs.length] λ _=>RN.draw [11] []<|RD.goP [] [0,4,5,7,8,1,6,2,3] [.nw,.own 0] [I64 ((sz:Int)+(i:Int))]<|RD.cp [] 9 (λ X_=>(leafh_any (i:Int) (xs.getD i 0) _))<|RD.goP [] [10] [.ix (sz+i)] [(sz:Int)+(i:Int)=(((sz+i):Nat):Int) /\ (sz+i) < (2 * sz)]<|RD.one 11 (RDO.evP [] [.row 1 (sz+i) 0] [(0+(sz+i) * 1)=(sz+i) * 1+0 /\ (sz+i) < (2 * sz)] λ _=>?_)
   refine RD.fin<|RN.goP 6 [.nw] [I64 ((i:Int)+1)] λ _=>RN.bv 1 (congrArg (λ v_=>(.rows 1 (2 * sz) v_ 50 (0,0):Blk)) (show (updG (urow (lfF xs sz i)) (sz+i) 0 (.int .u64 (leafH (i:Int) (xs.getD i 0))))=(urow (lfF xs sz (i+1))) from (urow_upd _ _ _))) ?_
   refine mt5 (i+1) [0,1,2] [] ?_
   try dsimp only
   exact ⟨by omega,by omega⟩
  ·obtain rfl:i=xs.length:=by omega
   refine RN.go 8 [] λ _=>RN.cp (hsum_nil (⟨#[101,109,112,116,121]⟩) _ (by decide))<|RN.go 12 [] λ _=>RN.bv 1 (congrArg (λ v_=>(.rows 1 (2 * sz) v_ 50 (0,0):Blk)) (show (urow (lfF xs sz xs.length))=(urow (emF xs sz (xs.length - xs.length))) from (by rw [Nat.sub_self];rfl)))<|RN.loop (σ:=Nat) (λ j=>⟨[(4,vI (sz:Int)),(5,vP (n3+0) 0),(8,.int .u64 (sumH (⟨#[101,109,112,116,121]⟩) [])),(9,vI (j:Int))],[((n3+0),.lit [vI (hgtN xs.length:Int),vS (n1+0) 0 xs.length xs.length,vS (n2+0) 0 (2 * sz) (2 * sz)] 107 (0,0)),((n2+0),.rows 1 (2 * sz) (urow (emF xs sz (j - xs.length))) 50 (0,0)),((n1+0),.rows 1 xs.length (irow xs) 3 (0,0))],[],xs.length <= j /\ j <= sz,sz - j⟩) xs.length [0,1,2] [] (⟨Nat.le_refl _,by omega⟩) ?_
   rintro j ⟨hj_,hj2_⟩ mt8
   refine RN.go 8 [] λ _=>RN.em ((j:Int) < (sz:Int)) 55 (λ h9=>?_) λ h9=>?_
   ·refine RN.goP 24 [.own 0,.nw,.ix (sz+j),.row 1 (sz+j) 0,.nw] [I64 ((j:Int)+1),(0+(sz+j) * 1)=(sz+j) * 1+0 /\ (sz+j) < (2 * sz),(sz:Int)+(j:Int)=(((sz+j):Nat):Int) /\ (sz+j) < (2 * sz),I64 ((sz:Int)+(j:Int))] λ _=>RN.bv 1 (congrArg (λ v_=>(.rows 1 (2 * sz) v_ 50 (0,0):Blk)) (show (updG (urow (emF xs sz (j - xs.length))) (sz+j) 0 (.int .u64 (sumH (⟨#[101,109,112,116,121]⟩) [])))=(urow (emF xs sz (j+1 - xs.length))) from (by rw [urow_upd,<- em_next (by omega)];rfl))) ?_
    refine mt8 (j+1) [0,1,2] [] ?_
    try dsimp only
    exact ⟨⟨by omega,by omega⟩,by omega⟩
   ·obtain rfl:sz=j:=by omega
    refine RN.goP 15 [.nw] [I64 ((sz:Int) - 1)] λ _=>RN.bv 1 (congrArg (λ v_=>(.rows 1 (2 * sz) v_ 50 (0,0):Blk)) (show (urow (emF xs sz (sz - xs.length)))=(urow (inF xs sz (sz - 1 - (sz - 1)))) from (by rw [Nat.sub_self];rfl)))<|RN.sv 10 (congrArg (λ v_=>(vI v_:Value)) (show (sz:Int) - 1=((sz - 1:Nat):Int) by omega))<|RN.loop (σ:=Nat) (λ k=>⟨[(5,vP (n3+0) 0),(10,vI (k:Int))],[((n3+0),.lit [vI (hgtN xs.length:Int),vS (n1+0) 0 xs.length xs.length,vS (n2+0) 0 (2 * sz) (2 * sz)] 107 (0,0)),((n2+0),.rows 1 (2 * sz) (urow (inF xs sz (sz - 1 - k))) 50 (0,0)),((n1+0),.rows 1 xs.length (irow xs) 3 (0,0))],[],k+1 <= sz,k⟩) (sz - 1) [0,1,2] [] (by omega) ?_
    rintro k hI10 mt11
    refine RN.go 7 [] λ _=>RN.em ((k:Int) >= 1) 70 (λ h12=>?_) λ h12=>?_
    ·refine RN.go 5 [] λ _=>RN.draw [24] []<|RD.goP [] [0,4,5,9,13,17,1,6,10,14,18,2,7,15,19,3,8,16,11,20,12,21] [.nw,.nw,.nw,.own 0,.own 0,.own 0,.ix (2 * k),.ix (2 * k+1),.row 1 (2 * k) 0,.row 1 (2 * k+1) 0] [(0+(2 * k+1) * 1)=(2 * k+1) * 1+0 /\ (2 * k+1) < (2 * sz),(0+(2 * k) * 1)=(2 * k) * 1+0 /\ (2 * k) < (2 * sz),(2 * (k:Int))+1=(((2 * k+1):Nat):Int) /\ (2 * k+1) < (2 * sz),2 * (k:Int)=(((2 * k):Nat):Int) /\ (2 * k) < (2 * sz),I64 ((2 * (k:Int))+1),I64 (2 * (k:Int)),I64 (2 * (k:Int))]<|RD.cp [] 22 (λ X_=>(pairh_any ((inF xs sz (sz - 1 - k)) (2 * k)) ((inF xs sz (sz - 1 - k)) (2 * k+1)) _))<|RD.goP [] [23] [.ix k] [(k:Int)=((k:Nat):Int) /\ k < (2 * sz)]<|RD.one 24 (RDO.evP [] [.row 1 k 0] [(0+k * 1)=k * 1+0 /\ k < (2 * sz)] λ _=>?_)
     refine RD.fin<|RN.goP 7 [.nw] [I64 ((k:Int) - 1)] λ _=>RN.bv 1 (congrArg (λ v_=>(.rows 1 (2 * sz) v_ 50 (0,0):Blk)) (show (updG (urow (inF xs sz (sz - 1 - k))) k 0 (.int .u64 (pairH ((inF xs sz (sz - 1 - k)) (2 * k)) ((inF xs sz (sz - 1 - k)) (2 * k+1)))))=(urow (inF xs sz (sz - 1 - (k - 1)))) from (by rw [urow_upd,in_next (by omega) (by omega)])))<|RN.sv 10 (congrArg (λ v_=>(vI v_:Value)) (show (k:Int) - 1=((k - 1:Nat):Int) by omega)) ?_
     refine mt11 (k - 1) [0,1,2] [] ?_
     try dsimp only
     exact ⟨by omega,by omega⟩
    ·obtain rfl:k=0:=by omega
     refine RN.go 12 [] λ _=>RN.ret [] [0,2,1] [] (v:=vP (n3+0) 0) (H':=[((n3+0),.lit [vI (hgtN xs.length:Int),vS (n1+0) 0 xs.length xs.length,vS (n2+0) 0 (2 * sz) (2 * sz)] 107 (0,0)),((n1+0),.rows 1 xs.length (irow xs) 3 (0,0)),((n2+0),.rows 1 (2 * sz) (urow (inF xs sz (sz - 1 - 0))) 50 (0,0))]) ?_
     subst hsz
     exact ⟨(_,_,_),rfl,rfl⟩
 ·intro key13
  refine RD.two 3 6 ?_ ?_
  ·refine RDO.evP [] [.mk xs.length xs.length] [(xs.length:Int)=((xs.length:Nat):Int) /\ (xs.length:Int)=((xs.length:Nat):Int) /\ xs.length <= xs.length /\ 8 * xs.length <= 140737488355328 /\ 1=1 /\ xs.length <= 9223372036854775807] λ n14=>RD.one 6 (RDO.evP [] [.mk (2 * sz) (2 * sz)] [2 * (sz:Int)=(((2 * sz):Nat):Int) /\ 2 * (sz:Int)=(((2 * sz):Nat):Int) /\ (2 * sz) <= (2 * sz) /\ 8 * (2 * sz) <= 140737488355328 /\ 1=1 /\ (2 * sz) <= 9223372036854775807] λ n15=>?_)
   refine RD.one 7 (RDO.ev [] [] λ _=>?_)
   refine RD.one 8 (RDO.ev [] [] λ n16=>?_)
   refine RD.one 9 (RDO.ev [] [] λ _=>?_)
   exact key13 ⟨n14,n15,n16⟩ [0,1,2] []
  ·refine RDO.evP [] [.mk (2 * sz) (2 * sz)] [2 * (sz:Int)=(((2 * sz):Nat):Int) /\ 2 * (sz:Int)=(((2 * sz):Nat):Int) /\ (2 * sz) <= (2 * sz) /\ 8 * (2 * sz) <= 140737488355328 /\ 1=1 /\ (2 * sz) <= 9223372036854775807] λ n17=>RD.one 3 (RDO.evP [] [.mk xs.length xs.length] [(xs.length:Int)=((xs.length:Nat):Int) /\ (xs.length:Int)=((xs.length:Nat):Int) /\ xs.length <= xs.length /\ 8 * xs.length <= 140737488355328 /\ 1=1 /\ xs.length <= 9223372036854775807] λ n18=>?_)
   refine RD.one 7 (RDO.ev [] [] λ _=>?_)
   refine RD.one 8 (RDO.ev [] [] λ n19=>?_)
   refine RD.one 9 (RDO.ev [] [] λ _=>?_)
   exact key13 ⟨n18,n17,n19⟩ [0,2,1] []
theorem troot_any (t cb nb n c:Nat) (h:Int) (f:Nat -> Int) (F:HL) (ht:(t,.lit [vI h,vS cb 0 n n,vS nb 0 c c] 107 (0,0)) ∈ F) (hn:(nb,.rows 1 c (urow f) 50 (0,0)) ∈ F) (hc:2 <= c):Sp Tryz.prog 17 #[vP t 0] [] F (λ u H'=>u=.int .u64 (f 1) /\ H'=[]):=by
 refine Sp.run Tryz.func17 rfl (mc ht (mc hn mn)) (A:=[]) (Ts:=[]) rfl λ w0=>?_
 refine RN.goP 16 [.ro 0,.ix 1,.rorow 1 1 0] [(0+1 * 1)=1 * 1+0 /\ 1 < c,1=((1:Nat):Int) /\ 1 < c] λ _=>?_
 exact RN.ret [] [] [] ⟨rfl,rfl⟩
theorem mnew_ap (q c:Nat) (xs:List Int) (F:HL) (hq:(q,.rows 1 c (irow xs) 3 (0,0)) ∈ F) (hc:xs.length <= c) (hl:xs.length <= 1000000):Sp Tryz.prog 12 #[vS q 0 xs.length c] (ap [] []) F (λ u H'=>∃ x:Nat × Nat × Nat,H'=ap [(x.1,.lit [vI (hgtN xs.length:Int),vS x.2.1 0 xs.length xs.length,vS x.2.2 0 (2 * szN xs.length) (2 * szN xs.length)] 107 (0,0)),(x.2.1,.rows 1 xs.length (irow xs) 3 (0,0)),(x.2.2,.rows 1 (2 * szN xs.length) (urow (inF xs (szN xs.length) (szN xs.length - 1))) 50 (0,0))] [] /\ u=vP x.1 0):=mnew_any q c xs F hq hc hl
theorem mroot_any (q c:Nat) (xs:List Int) (F:HL) (hq:(q,.rows 1 c (irow xs) 3 (0,0)) ∈ F) (hc:xs.length <= c) (hl:xs.length <= 1000000):Sp Tryz.prog 16 #[vS q 0 xs.length c] [] F (λ u H'=>u=.int .u64 (rootF xs) /\ H'=[]):=by
 refine Sp.run Tryz.func16 rfl (mc hq mn) (A:=[]) (Ts:=[]) rfl λ w0=>?_
 refine RN.go 8 [] λ _=>RN.ct (Hp:=[]) (Tp:=[]) [] [] (mnew_ap q c xs _ (ro_ap hq) hc hl) ?_
 rintro _ ⟨t1,c2,n3⟩ rfl
 refine RN.cp (troot_any t1 c2 n3 xs.length (2 * szN xs.length) (hgtN xs.length) (inF xs (szN xs.length) (szN xs.length - 1)) _ (in_ap 0) (in_ap 2) (by have:=(hgt_bd hl).2.2.1;omega))<|RN.go 3 [] λ _=>?_
 exact RN.ret [] [] [] ⟨rfl,rfl⟩
theorem groot_any (S:Setup) (bp gb mb:Nat) (M:MemS) (k:Nat) (T F:HL) (hg:(gb,.lit (gameL S bp mb) 97 (0,0)) ∈ F) (hM:MemH mb M k T) (hT:∀ x ∈ T,x ∈ F):Sp Tryz.prog 15 #[vP gb 0] [] F (λ u H'=>u=.int .u64 (rootF M.cs) /\ H'=[]):=by
 refine Sp.run Tryz.func15 rfl (mc hg mn) (A:=[]) (Ts:=[]) rfl λ w0=>?_
 refine RN.go 11 [.ro 0] λ _=>RN.ct (Hp:=[]) (Tp:=[]) [] [] (cells_ap mb M k T _ hM (λ x hx=>ro_ap (hT x hx))) ?_
 rintro _ q1 rfl
 refine RN.cp (mroot_any q1 M.cs.length M.cs _ (in_ap 0) (Nat.le_refl _) hM.len)<|RN.go 3 [] λ _=>?_
 exact RN.ret [] [] [] ⟨rfl,rfl⟩
theorem grootH {rs:List Bx} {ds:List Dr} {bp gb:Nat} {S:Setup} {M:MemS} {k:Nat} {T F:HL} (h:GameH rs ds bp gb S M k T) (hF:∀ x ∈ T,x ∈ F):Sp Tryz.prog 15 #[vP gb 0] [] F (λ u H'=>u=.int .u64 (rootF M.cs) /\ H'=[]):=by
 cases h with
 | mk mb T1 U hM hU=>exact groot_any S bp gb mb M k T1 F (hF _ (by simp [ap])) hM λ x hx=>hF x (by simp [ap,hx])
section
variable (xs:List Int) (sz:Nat)
theorem lf_at:∀ i j,lfF xs sz i (sz+j)=if j < i then leafH (j:Int) (xs.getD j 0) else 0
  | 0,j=>by rw [if_neg (Nat.not_lt_zero _)];rfl
  | i+1,j=>by
    rw [lfF,updI]
    by_cases h:j=i
    · subst h
      rw [if_pos rfl,if_pos (by omega)]
    · rw [if_neg (by omega),lf_at i j]
      by_cases h2:j < i
      · rw [if_pos h2,if_pos (by omega)]
      · rw [if_neg h2,if_neg (by omega)]
theorem em_at:∀ m j,emF xs sz m (sz+j)=if xs.length <= j /\ j < xs.length+m then emptyH else lfF xs sz xs.length (sz+j)
  | 0,j=>by rw [if_neg (by omega)];rfl
  | m+1,j=>by
    rw [emF,updI]
    by_cases h:j=xs.length+m
    · subst h
      rw [if_pos rfl,if_pos (by omega)]
    · rw [if_neg (by omega),em_at m j]
      by_cases h2:xs.length <= j /\ j < xs.length+m
      · rw [if_pos h2,if_pos (by omega)]
      · rw [if_neg h2,if_neg (by omega)]
theorem in_step (m k:Nat) (h:k ≠ sz - 1 - m):inF xs sz (m+1) k=inF xs sz m k:=by rw [inF,updI,if_neg h]
theorem in_leaf:∀ m j,m <= sz - 1 -> 0 < sz -> inF xs sz m (sz+j)=emF xs sz (sz - xs.length) (sz+j)
  | 0,_,_,_=>rfl
  | m+1,j,h,h0=>by rw [in_step xs sz m _ (by omega),in_leaf m j (by omega) h0]
theorem in_stay (m k:Nat) (hk:sz <= k+m):∀ d,m+d <= sz -> inF xs sz (m+d) k=inF xs sz m k
  | 0,_=>rfl
  | d+1,h=>by
    rw [<- Nat.add_assoc,in_step xs sz (m+d) k (by omega),in_stay m k hk d (by omega)]
def finF (k:Nat):Int:=inF xs sz (sz - 1) k
theorem fin_leaf (h:xs.length <= sz) {j:Nat} (hj:j < sz):finF xs sz (sz+j)=if j < xs.length then leafH (j:Int) (xs.getD j 0) else emptyH:=by
  unfold finF
  rw [in_leaf xs sz _ _ (Nat.le_refl _) (by omega),em_at,lf_at]
  by_cases h1:j < xs.length
  · rw [if_neg (by omega),if_pos h1,if_pos h1]
  · rw [if_pos (by omega),if_neg h1]
theorem fin_node {k:Nat} (h1:1 <= k) (hk:k < sz):finF xs sz k=pairH (finF xs sz (2 * k)) (finF xs sz (2 * k+1)):=by
  have key:∀ q,k+1 <= q -> finF xs sz q=inF xs sz (sz - 1 - k) q:=λ q hq=>by
    unfold finF
    have:=in_stay xs sz (sz - 1 - k) q (by omega) k (by omega)
    rwa [show sz - 1 - k+k=sz - 1 by omega] at this
  have h2:finF xs sz k=inF xs sz (sz - 1 - k+1) k:=by
    unfold finF
    have:=in_stay xs sz (sz - 1 - k+1) k (by omega) (k - 1) (by omega)
    rwa [show sz - 1 - k+1+(k - 1)=sz - 1 by omega] at this
  rw [h2,key (2 * k) (by omega),key (2 * k+1) (by omega),inF,updI,show sz - 1 - (sz - 1 - k)=k by omega,if_pos rfl]
def nodeR:Nat -> Nat -> Int
  | 0,i=>if i < xs.length then leafH (i:Int) (xs.getD i 0) else emptyH
  | j+1,f=>pairH (nodeR j f) (nodeR j (f+2 ^ j))
end
theorem fin_nodeR (xs:List Int) (h:Nat) (hn:xs.length <= 2 ^ h):∀ j d p,j+d=h -> p < 2 ^ d -> finF xs (2 ^ h) (2 ^ d+p)=nodeR xs j (p * 2 ^ j)
  | 0,d,p,e,hp=>by
    obtain rfl:d=h:=by omega
    rw [fin_leaf xs _ hn hp,nodeR]
    simp
  | j+1,d,p,e,hp=>by
    have h2:2 ^ (d+1) <= 2 ^ h:=Nat.pow_le_pow_right (by omega) (by omega)
    have h3:0 < 2 ^ d:=Nat.two_pow_pos d
    rw [Nat.pow_succ] at h2
    rw [fin_node xs _ (by omega) (by omega),nodeR]
    have e1:2 * (2 ^ d+p)=2 ^ (d+1)+2 * p:=by rw [Nat.pow_succ];omega
    have e2:2 * (2 ^ d+p)+1=2 ^ (d+1)+(2 * p+1):=by rw [Nat.pow_succ];omega
    rw [e1,show 2 ^ (d+1)+2 * p+1=2 ^ (d+1)+(2 * p+1) by omega,fin_nodeR xs h hn j (d+1) (2 * p) (by omega) (by rw [Nat.pow_succ];omega),fin_nodeR xs h hn j (d+1) (2 * p+1) (by omega) (by rw [Nat.pow_succ];omega)]
    have e3:2 * p * 2 ^ j=p * 2 ^ (j+1):=by rw [Nat.pow_succ,Nat.mul_comm 2 p,Nat.mul_assoc,Nat.mul_comm 2]
    have e4:(2 * p+1) * 2 ^ j=p * 2 ^ (j+1)+2 ^ j:=by rw [Nat.add_mul,Nat.one_mul,e3]
    rw [e3,e4]
theorem root_nodeR {xs:List Int} (hl:xs.length <= 1000000):rootF xs=nodeR xs (hgtN xs.length) 0:=by
  have h:=hgt_bd hl
  have:=fin_nodeR xs (hgtN xs.length) h.2.1 (hgtN xs.length) 0 0 (by omega) (by simp)
  rw [Nat.zero_mul] at this
  exact this
def upF (xs:List Int) (sz h:Nat):Nat -> Int
  | 0=>leafH 0 (xs.getD 0 0)
  | l+1=>pairH (upF xs sz h l) (finF xs sz (2 ^ (h - l)+1))
theorem up_fin (xs:List Int) (h:Nat) (hn:xs.length <= 2 ^ h) (h0:0 < xs.length):∀ l,l <= h -> upF xs (2 ^ h) h l=finF xs (2 ^ h) (2 ^ (h - l))
  | 0,_=>by
    have:=fin_leaf xs (2 ^ h) hn (j:=0) (by omega)
    rw [if_pos h0,Nat.add_zero] at this
    rw [Nat.sub_zero,this];rfl
  | l+1,hl=>by
    have h3:0 < 2 ^ (h - (l+1)):=Nat.two_pow_pos _
    have e:2 ^ (h - l)=2 * 2 ^ (h - (l+1)):=by rw [show h - l=(h - (l+1))+1 by omega,Nat.pow_succ,Nat.mul_comm]
    have h2:2 ^ (h - l) <= 2 ^ h:=Nat.pow_le_pow_right (by omega) (by omega)
    rw [upF,up_fin xs h hn h0 l (by omega),fin_node xs (2 ^ h) (k:=2 ^ (h - (l+1))) (by omega) (by omega),<- e]
theorem pow_lt {n i:Nat} (h:n <= 1000000):2 ^ i < n ↔ i < hgtN n:=by
  obtain ⟨h1,h2,h3,h4⟩:=hgt_bd h
  constructor
  · intro hi
    apply Classical.byContradiction
    intro hc
    have:=Nat.pow_le_pow_right (n:=2) (by omega) (show hgtN n <= i by omega)
    unfold szN at h2
    omega
  · intro hi
    unfold hgtN at hi
    by_cases hn:n <= 1
    · rw [if_pos hn] at hi;omega
    · rw [if_neg hn] at hi
      obtain ⟨m,e,b2,b3⟩:=bl_bd 64 (n - 1) (by omega) (by omega)
      rw [show Lib.bitLen (n - 1)=m+1 from e] at hi
      have:=Nat.pow_le_pow_right (n:=2) (by omega) (show i <= m by omega)
      omega
open Go.Shelf
section
variable {r:Option Nat} {P:Program} {N:Nat} {D:List Deferred} {F:HL} {w0:World} {R:HL} {s:Cfg} {Q:Exit -> Act -> World -> Prop}
end
section
variable {α:Type} {e:Enc α} {T:TypeId} {F:HL} {A:Option Addr} {n cap:Nat} {xs:List α} {Hl:HL}
end
def byteI (st:ByteArray) (i:Nat):Int:=((st.data.toList.map λ b:UInt8=>(b.toNat:Int)).getD i 0)
def brow8 (st:ByteArray):Nat -> Nat -> Value:=λ i k=>match k with | 0=>.int .u8 (byteI st i) | _=>default
theorem brow8_rows (st:ByteArray) {cap:Nat} (h:st.size <= cap):rowsOf 1 (brow8 st) cap=(bytesRow st cap).toList:=by
  have hl:st.data.toList.length=st.size:=by rw [Array.length_toList];rfl
  refine rowsOf_ext ?_ λ i k hi hk=>?_
  · simp only [bytesRow,Array.toList_append,Array.toList_map,Array.toList_replicate,List.length_append,List.length_map,List.length_replicate,hl]
    omega
  · obtain rfl:k=0:=by omega
    simp only [bytesRow,Array.toList_append,Array.toList_map,Array.toList_replicate,Nat.mul_one,Nat.add_zero]
    unfold brow8 byteI
    rw [List.getD_eq_getElem?_getD,List.getElem?_append,List.length_map,List.getElem?_map,List.getElem?_map,List.getElem?_replicate]
    by_cases h1:i < st.data.toList.length
    · rw [if_pos h1,List.getElem?_eq_getElem h1]
      rfl
    · rw [if_neg h1,if_pos (by omega),List.getElem?_eq_none (by omega)]
      rfl
def sbV (P:Program) (o:Oper) (L:FL):Option (ByteArray × TypeId):=match o.guard,o.op with
  | none,.convert src dst x=>match inL L x,P.underlying src,P.underlying dst,rho L x with
    | true,some .string,some (.slice e),.string st=>match P.underlying e with
      | some (.int .u8)=>some (st,e)
      | _=>none
    | _,_,_,_=>none
  | _,_=>none
def sbK (P:Program) (N:Nat) (oo:Option Oper) (s:Cfg):Option (ByteArray × TypeId):=match oo with
  | some o=>match sbV P o s.L,(putL N o.dst undef s.L).isSome with
    | some x,true=>some x
    | _,_=>none
  | none=>none
def ntB (Hl:HL) (s:Cfg):Cfg:=match s with
  | ⟨c,k,L,A,Ts⟩=>⟨c,k,L,A,Hl :: Ts⟩
section
variable {r:Option Nat} {P:Program} {N:Nat} {D:List Deferred} {F:HL} {w0:World} {R:HL} {s:Cfg} {Q:Exit -> Act -> World -> Prop}
theorem sbV_spec {o:Oper} {L:FL} {st:ByteArray} {e:TypeId} (h:sbV P o L=some (st,e)) :
    ∃ src dst x,o.guard=none /\ o.op=.convert src dst x /\ inL L x=true /\ P.underlying src=some .string /\ P.underlying dst=some (.slice e) /\ rho L x=.string st /\ P.underlying e=some (.int .u8):=by
  unfold sbV at h
  split at h
  case h_2=>cases h
  rename_i src dst x hg hop
  split at h
  case h_2=>cases h
  rename_i e' st' h1 h2 h3 h4
  split at h
  case h_2=>cases h
  rename_i h5
  simp only [Option.some.injEq,Prod.mk.injEq] at h
  obtain ⟨e1,e2⟩:=h
  subst e1;subst e2
  exact ⟨src,dst,x,hg,hop,h1,h2,h3,h4,h5⟩
theorem RN.s2b {st:ByteArray} {e:TypeId} (hk:∀ b cap,st.size <= cap -> RN r P N D F w0 R (ntB [(b,.rows 1 cap (brow8 st) e (cap,cap+1))] (putC N (.slice (some ⟨b,0,none⟩) st.size cap) s)) Q)
    (h:sbK P N (opAt s) s=some (st,e):=by kernel_rfl):RN r P N D F w0 R s Q:=by
  unfold sbK at h
  split at h
  case h_2=>cases h
  rename_i o q0
  split at h
  case h_2=>cases h
  rename_i y hv hp
  simp only [Option.some.injEq] at h
  rw [h] at hv
  clear h
  obtain ⟨src,dst,x,q1,q2,q3,q4,q5,q6,q7⟩:=sbV_spec hv
  refine ⟨λ hR aa w hF hRel hB=>?_⟩
  obtain ⟨c,k,L,Bs,Ts⟩:=s
  unfold opAt at q0
  cases c with
  | code c=>cases q0
  | ex c=>cases q0
  | drw _ _=>cases q0
  | ops ops pc =>
    simp only at q0 q3 q6 hp hF hRel
    have hdrop:ops.toList.drop pc=o :: ops.toList.drop (pc+1):=by
      have hlt:pc < ops.toList.length:=(List.getElem?_eq_some_iff.1 q0).1
      rw [List.drop_eq_getElem_cons hlt,(List.getElem?_eq_some_iff.1 q0).2]
    show wpListIn _ _ _ _ _ _ _ _
    rw [hdrop,wpListIn,if_pos (by simp [Region.wanted,q1])]
    refine ⟨λ _ _=>trivial,?_⟩
    have key:gives P o aa w λ u w'=>∃ y:Nat × Nat,(u=.slice (some ⟨y.1,0,none⟩) st.size y.2 /\ st.size <= y.2) /\ Rel ((y.1,.rows 1 y.2 (brow8 st) e (y.2,y.2+1)) :: (ap Bs Ts++F)) w' /\ Below 0 w w':=by
      have e1:=(hF.eval q3).trans q6
      have hrun:=run_bytes_of_string (P:=P) w src dst e st q4 q5 q7
      have hge:=grownCap_ge w st.size 0 e
      generalize grownCap w st.size 0 e=cap at *
      have hsz:(bytesRow st cap).size=cap:=by
        have:=congrArg List.length (brow8_rows st hge)
        rw [rowsOf_length] at this
        simpa using this.symm
      rw [hsz] at hrun
      unfold gives
      have he:(execOp aa.eval o).run P w=.ok (.value (.slice (some ⟨w.heap.size,0,none⟩) st.size cap)) (w.drew.alloc (.cells (bytesRow st cap) e (cap,cap+1))):=by
        simp [execOp,q2,e1,hrun,Sem.run_bind]
      rw [he]
      refine ⟨(w.heap.size,cap),⟨rfl,hge⟩,?_,⟨rfl,rfl,rfl,by simp,λ k hk=>by omega⟩⟩
      have:=Rel.cons (.rows 1 cap (brow8 st) e (cap,cap+1)) (o:=.cells (bytesRow st cap) e (cap,cap+1)) (by
        show Obj.cells _ _ _=_
        congr 1
        apply Array.ext'
        exact (brow8_rows st hge)) (hRel.world (w':=w.drew) rfl)
      exact this
    refine gives_upon (by rw [q2];intro c hc;cases hc) key ?_
    rintro u w' ⟨⟨b,cap⟩,⟨rfl,hge⟩,hR',hB'⟩
    obtain ⟨L',p1⟩:=putL_some hp (.slice (some ⟨b,0,none⟩) st.size cap)
    have hh:=(hk b cap hge).h hR
    have hpc:putC N (.slice (some ⟨b,0,none⟩) st.size cap) ⟨.ops ops pc,k,L,Bs,Ts⟩=⟨.ops ops (pc+1),k,L',Bs,Ts⟩:=by
      unfold putC
      simp only [q0,p1]
    rw [hpc] at hh
    refine hh _ w' (hF.put p1) (hR'.perm ?_) (hB.trans hB')
    show ((Bs++([(b,_)] :: Ts).flatten)++F).Perm _
    rw [List.flatten_cons,<- List.cons_append]
    refine List.Perm.append_right _ ?_
    exact List.perm_middle
end
end Go.Proofs.YtcfajdgeejeieaaGreatDoor
