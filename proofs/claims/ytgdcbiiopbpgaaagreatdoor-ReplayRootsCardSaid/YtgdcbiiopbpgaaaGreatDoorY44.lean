import Derived.Test.YtgdcbiiopbpgaaaGreatDoorY43
set_option maxHeartbeats 4000000
set_option maxRecDepth 100000
set_option linter.unusedSimpArgs false
set_option linter.unusedVariables false
namespace Go.Proofs.YtgdcbiiopbpgaaaGreatDoor
open Go.RowKit
def GB (i v:Int):Int:=ky ⟨#[108,101,97,102]⟩ [i,v]
def AP (a b:Int):Int:=ky ⟨#[112,97,105,114]⟩ [aY a,aY b]
def GC:Int:=ky ⟨#[101,109,112,116,121]⟩ []
def j8 (n:Nat):Nat:=if n <= 1 then 0 else Lib.bitLen (n - 1)
def rh (n:Nat):Nat:=2 ^ j8 n
theorem Ly {n:Nat} (h:(n:Int) <= 1):j8 n=0:=by
 unfold j8
 rw [if_pos (by omega)]
theorem Lz {n:Nat} (hl:n <= 1000000) (h:¬ (n:Int) <= 1):tR ((n:Int) - 1)=(j8 n:Int):=by
 unfold j8 tR
 rw [if_neg (by omega)]
 have e:(uV ((n:Int) - 1)).toNat=n - 1:=by
  rw [show uV ((n:Int) - 1)=(n:Int) - 1 by rw [uV,IntKind.wrap];simp [IntKind.signed,IntKind.bits];omega]
  omega
 rw [e]
theorem JY:∀ (f x:Nat),x < 2 ^ f -> x ≠ 0 -> ∃ m,Lib.bitLenAux f x=m+1 /\ 2 ^ m <= x /\ x < 2 ^ (m+1)
 | 0,x,h,h0=>absurd (by simpa using h) h0
 | f+1,x,h,h0=>by
  rw [Lib.bitLenAux,if_neg h0]
  by_cases h2:x / 2=0
  ·have e:Lib.bitLenAux f (x / 2)=0:=by rw [h2];cases f <;> simp [Lib.bitLenAux]
   rw [e]
   exact ⟨0,rfl,by simp;omega,by simp;omega⟩
  ·obtain ⟨m,e,h3,h4⟩:=JY f (x / 2) (by rw [Nat.pow_succ] at h;omega) h2
   rw [e]
   exact ⟨m+1,by omega,by rw [Nat.pow_succ];omega,by rw [Nat.pow_succ];omega⟩
theorem za {n:Nat} (h:n <= 1000000):j8 n <= 20 /\ n <= rh n /\ 1 <= rh n /\ rh n <= 2000000:=by
 unfold rh j8
 by_cases h1:n <= 1
 ·rw [if_pos h1]
  simp
  omega
 ·rw [if_neg h1]
  obtain ⟨m,e,b2,b3⟩:=JY 64 (n - 1) (by omega) (by omega)
  rw [show Lib.bitLen (n - 1)=m+1 from e]
  have hm:m < 20:=by
   apply Classical.byContradiction
   intro hn
   have:=Nat.pow_le_pow_right (n:=2) (by omega) (show 20 <= m by omega)
   omega
  rw [Nat.pow_succ] at b3 ⊢
  omega
theorem Nr {n:Nat} (h:n <= 1000000):IntKind.i64.wrap (1 * 2 ^ min ((j8 n:Int)).toNat 64)=(rh n:Int):=by
 obtain ⟨h1,h2,h3,h4⟩:=za h
 rw [Int.toNat_natCast,Nat.min_eq_left (by omega),IntKind.wrap_i64]
 have e:(1:Int) * 2 ^ j8 n=(rh n:Int):=by
  unfold rh
  rw [Int.one_mul]
  norm_cast
 rw [e]
 omega
def iL (f:Nat -> Int):Nat -> Nat -> Value:=λ i k=>match k with | 0=>.int .u64 (f i) | _=>default
def zb (f:Nat -> Int) (i:Nat) (v:Int):Nat -> Int:=λ j=>if j=i then v else f j
theorem ri (f:Nat -> Int) (i:Nat) (v:Int):dU (iL f) i 0 (.int .u64 v)=iL (zb f i v):=by
 funext j k
 unfold dU iL zb
 cases k with
 | zero=>by_cases h:j=i <;> simp [h]
 | succ k=>simp
def JZ (xs:List Int) (sz:Nat):Nat -> Nat -> Int
 | 0=>λ _=>0
 | i+1=>zb (JZ xs sz i) (sz+i) (GB i (xs.getD i 0))
def Hh (xs:List Int) (sz:Nat):Nat -> Nat -> Int
 | 0=>JZ xs sz xs.length
 | m+1=>zb (Hh xs sz m) (sz+(xs.length+m)) GC
def rZ (xs:List Int) (sz:Nat):Nat -> Nat -> Int
 | 0=>Hh xs sz (sz - xs.length)
 | m+1=>zb (rZ xs sz m) (sz - 1 - m) (AP (rZ xs sz m (2 * (sz - 1 - m))) (rZ xs sz m (2 * (sz - 1 - m)+1)))
def fN (xs:List Int):Int:=rZ xs (rh xs.length) (rh xs.length - 1) 1
theorem CK (xs:List Int) (sz:Nat):iT [.int .u64 0]=iL (JZ xs sz 0):=by
 funext j k
 cases k with
 | zero=>rfl
 | succ k=>simp [iT,iL]
theorem Jf {xs:List Int} {sz j:Nat} (h:xs.length <= j):zb (Hh xs sz (j - xs.length)) (sz+j) GC=Hh xs sz (j+1 - xs.length):=by
 rw [show j+1 - xs.length=(j - xs.length)+1 by omega,Hh,show xs.length+(j - xs.length)=j by omega]
theorem Jg {xs:List Int} {sz k:Nat} (h:k+1 <= sz) (h1:1 <= k):zb (rZ xs sz (sz - 1 - k)) k (AP (rZ xs sz (sz - 1 - k) (2 * k)) (rZ xs sz (sz - 1 - k) (2 * k+1)))=rZ xs sz (sz - 1 - (k - 1)):=by
 rw [show sz - 1 - (k - 1)=(sz - 1 - k)+1 by omega,rZ,show sz - 1 - (sz - 1 - k)=k by omega]
theorem CL (xs:List Int) {n:Nat} (h:xs.length=n):bA 1 (aK xs) n=xs.map vI:=by
 refine ia (by simpa using h) λ i k hi hk=>?_
 obtain rfl:k=0:=by omega
 have hi2:i < xs.length:=by omega
 simp [aK,List.getD_eq_getElem?_getD,List.getElem?_eq_getElem hi2]
theorem GD {q c:Nat} {ty:TypeId} {xs:List Int} {H F:HL} (hq:(q,.rows 1 c (aK xs) ty (0,0)) ∈ H++F) (hc:xs.length <= c):∀ w,Rel (H++F) w -> ∀ j v,(xs.map vI)[j]?=some v -> w.cell? (Addr.add ⟨q,0,none⟩ j)=some v:=by
 intro w hr j v hv
 have hj:j < xs.length:=by
  have:=(List.getElem?_eq_some_iff.1 hv).1
  simpa using this
 have hb:=hr.holds _ hq
 rw [show Addr.add ⟨q,0,none⟩ j=⟨q,j,none⟩ by unfold Addr.add;split <;> simp_all,jq (i:=j) (k:=0) hb rfl rfl (by simp) (by omega) (by omega)]
 rw [<- hv]
 simp [aK,List.getD_eq_getElem?_getD,List.getElem?_eq_getElem hj]
theorem LA {xs:List Int}:∀ v ∈ xs.map vI,v.oneCell'=true:=by
 intro v hv
 obtain ⟨x,_,rfl⟩:=List.mem_map.1 hv
 rfl
theorem GE (b:ByteArray) (F:HL) (hb:b.size <= 1000000):Sp Tryz.prog 16 #[.string b,.slice none 0 0] [] F (λ u H'=>u=.int .u64 (ky b []) /\ H'=[]):=by
 refine Sp.run Tryz.func16 rfl mn (A:=[]) (Ts:=[]) rfl λ w0=>?_
 refine ae 10 [] λ _=>aj (iB b 0 _ (by assumption))<|ae 12 [] λ _=>RN.rounds 1<|ae 15 [] λ _=>aj (eE (cH b 0) 0 _)<|ae 3 [] λ _=>?_
 exact RN.ret [] [] [] ⟨rfl,rfl⟩
theorem zc (n:Nat) (F:HL) (hl:n <= 1000000):Sp Tryz.prog 73 #[vI (n:Int)] [] F (λ u H'=>u=vI (j8 n:Int) /\ H'=[]):=by
 refine Sp.run Tryz.func73 rfl mn (A:=[]) (Ts:=[]) rfl λ w0=>?_
 refine ae 12 [] λ _=>RN.em ((n:Int) <= 1) 4 (λ h1=>?_) λ h1=>?_
 ·refine ae 6 [] λ _=>RN.ret [] [] [] (v:=vI 0) (H':=[]) ?_
  exact ⟨congrArg (λ x:Nat=>vI (x:Int)) (Ly (by assumption)).symm,rfl⟩
 ·refine ai 8 [.nw] [bd ((n:Int) - 1)] λ _=>aj (uW ((n:Int) - 1) _)<|ae 3 [] λ _=>RN.ret [] [] [] (v:=vI (tR ((n:Int) - 1))) (H':=[]) ?_
  exact ⟨congrArg vI (Lz hl (by assumption)),rfl⟩
theorem CM (i v:Int) (F:HL):Sp Tryz.prog 74 #[vI i,vI v] [] F (λ u H'=>u=.int .u64 (GB i v) /\ H'=[]):=by
 refine Sp.run Tryz.func74 rfl mn (A:=[]) (Ts:=[]) rfl λ w0=>?_
 refine ae 10 [] λ n1=>RN.dn 0 (.rows 1 2 (aK [i,v]) 3 (0,0))<|aj (kL (⟨#[108,101,97,102]⟩) ([i,v]) (n1+0) 2 _ (by decide) (Nat.le_of_ble_eq_true rfl) (Nat.le_of_ble_eq_true rfl) (aB 0))<|ae 3 [] λ _=>?_
 exact RN.ret [] [] [] ⟨rfl,rfl⟩
theorem CN (a b:Int) (F:HL):Sp Tryz.prog 75 #[.int .u64 a,.int .u64 b] [] F (λ u H'=>u=.int .u64 (AP a b) /\ H'=[]):=by
 refine Sp.run Tryz.func75 rfl mn (A:=[]) (Ts:=[]) rfl λ w0=>?_
 refine ae 12 [] λ n1=>RN.dn 0 (.rows 1 2 (aK [IntKind.i64.wrap a,IntKind.i64.wrap b]) 3 (0,0))<|aj (kL (⟨#[112,97,105,114]⟩) ([IntKind.i64.wrap a,IntKind.i64.wrap b]) (n1+0) 2 _ (by decide) (Nat.le_of_ble_eq_true rfl) (Nat.le_of_ble_eq_true rfl) (aB 0))<|ae 3 [] λ _=>?_
 exact RN.ret [] [] [] ⟨rfl,rfl⟩
theorem GG (q c:Nat) (xs:List Int) (F:HL) (hq:(q,.rows 1 c (aK xs) 3 (0,0)) ∈ F) (hc:xs.length <= c) (hl:xs.length <= 1000000):Sp Tryz.prog 40 #[vS q 0 xs.length c] [] F (λ u H'=>∃ x:Nat × Nat × Nat,H'=ap [(x.1,.lit [vI (j8 xs.length:Int),vS x.2.1 0 xs.length xs.length,vS x.2.2 0 (2 * rh xs.length) (2 * rh xs.length)] 150 (0,0)),(x.2.1,.rows 1 xs.length (aK xs) 3 (0,0)),(x.2.2,.rows 1 (2 * rh xs.length) (iL (rZ xs (rh xs.length) (rh xs.length - 1))) 45 (0,0))] [] /\ u=vP x.1 0):=by
 obtain ⟨hb1,hb2,hb3,hb4⟩:=za hl
 have he:=Nr hl
 obtain ⟨sz,hsz⟩:∃ sz,rh xs.length=sz:=⟨_,rfl⟩
 rw [hsz] at hb2 hb3 hb4 he
 refine Sp.run Tryz.func40 rfl (mc hq mn) (A:=[]) (Ts:=[]) rfl λ w0=>?_
 refine ae 9 [] λ _=>aj (zc xs.length _ hl)<|ai 11 [.dv] [0 <= (j8 xs.length:Int)] λ _=>RN.draw [] []<|kZ 4 (congrArg (λ v_=>(vI v_:Value)) he)<|aH [] [0,1,4,2,5] [.nw] [bd (2 * (sz:Int))]<|jy (σ:=Nat × Nat × Nat) (λ ⟨n1,n2,n3⟩=>⟨[(0,vS q 0 xs.length c),(4,vI (sz:Int)),(5,vP (n3+0) 0)],[((n3+0),.lit [vI (j8 xs.length:Int),vS (n1+0) 0 xs.length xs.length,vS (n2+0) 0 (2 * sz) (2 * sz)] 150 (0,0)),((n2+0),.rows 1 (2 * sz) (iT [.int .u64 0]) 45 (0,0)),((n1+0),.rows 1 xs.length (iT [vI 0]) 3 (0,0))],[],True,0⟩) ?_ ?_
 ·rintro ⟨n1,n2,n3⟩
  refine ae 8 [.own 0] λ _=>RN.cpy (b:=(n1+0)) (n:=xs.length) (cap:=xs.length) (m:=xs.length) (c':=c) (a:=⟨q,0,none⟩) (T:=3) (t:=22) (tx:=22) (ty:=3) (g:=(iT [vI 0])) 2 (.rows 1 xs.length (aK xs) 3 (0,0)) (xs.map vI) (by simp) rfl LA rfl (GD (List.mem_append_right _ hq) hc) (congrArg (λ l:List Value=>(Obj.cells ⟨l⟩ 3 (0,0))) (CL xs rfl))<|ae 11 [] λ _=>cR 1 (congrArg (λ v_=>(.rows 1 (2 * sz) v_ 45 (0,0):Blk)) (show (iT [.int .u64 0])=(iL (JZ xs sz 0)) from CK xs sz))<|RN.loop (σ:=Nat) (λ i=>⟨[(0,vS q 0 xs.length c),(4,vI (sz:Int)),(5,vP (n3+0) 0),(31,vS q 0 xs.length c),(32,vI (xs.length:Int)),(33,vI (i:Int))],[((n3+0),.lit [vI (j8 xs.length:Int),vS (n1+0) 0 xs.length xs.length,vS (n2+0) 0 (2 * sz) (2 * sz)] 150 (0,0)),((n2+0),.rows 1 (2 * sz) (iL (JZ xs sz i)) 45 (0,0)),((n1+0),.rows 1 xs.length (aK xs) 3 (0,0))],[],i <= xs.length,xs.length - i⟩) 0 [0,1,2] [] (Nat.zero_le _) ?_
  rintro i hI4 mt5
  refine ae 6 [] λ _=>RN.em ((i:Int) < (xs.length:Int)) 34 (λ h6=>?_) λ h6=>?_
  ·refine ai 14 [.ix i,.rorow 0 i 0] [(0+i * 1)=i * 1+0 /\ i < c,(i:Int)=((i:Nat):Int) /\ i < xs.length] λ _=>RN.draw [11] []<|aH [] [0,4,5,7,8,1,6,2,3] [.nw,.own 0] [bd ((sz:Int)+(i:Int))]<|ar [] 9 (λ X_=>(CM (i:Int) (xs.getD i 0) _))<|aH [] [10] [.ix (sz+i)] [(sz:Int)+(i:Int)=(((sz+i):Nat):Int) /\ (sz+i) < (2 * sz)]<|RD.one 11 (ee [] [.row 1 (sz+i) 0] [(0+(sz+i) * 1)=(sz+i) * 1+0 /\ (sz+i) < (2 * sz)] λ _=>?_)
   refine RD.fin<|ai 6 [.nw] [bd ((i:Int)+1)] λ _=>cR 1 (congrArg (λ v_=>(.rows 1 (2 * sz) v_ 45 (0,0):Blk)) (show (dU (iL (JZ xs sz i)) (sz+i) 0 (.int .u64 (GB (i:Int) (xs.getD i 0))))=(iL (JZ xs sz (i+1))) from (ri _ _ _))) ?_
   refine mt5 (i+1) [0,1,2] [] ?_
   try dsimp only
   exact ⟨by omega,by omega⟩
  ·obtain rfl:i=xs.length:=by omega
   refine ae 8 [] λ _=>aj (GE (⟨#[101,109,112,116,121]⟩) _ (by decide))<|ae 12 [] λ _=>cR 1 (congrArg (λ v_=>(.rows 1 (2 * sz) v_ 45 (0,0):Blk)) (show (iL (JZ xs sz xs.length))=(iL (Hh xs sz (xs.length - xs.length))) from (by rw [Nat.sub_self];rfl)))<|RN.loop (σ:=Nat) (λ j=>⟨[(4,vI (sz:Int)),(5,vP (n3+0) 0),(8,.int .u64 (ky (⟨#[101,109,112,116,121]⟩) [])),(9,vI (j:Int))],[((n3+0),.lit [vI (j8 xs.length:Int),vS (n1+0) 0 xs.length xs.length,vS (n2+0) 0 (2 * sz) (2 * sz)] 150 (0,0)),((n2+0),.rows 1 (2 * sz) (iL (Hh xs sz (j - xs.length))) 45 (0,0)),((n1+0),.rows 1 xs.length (aK xs) 3 (0,0))],[],xs.length <= j /\ j <= sz,sz - j⟩) xs.length [0,1,2] [] (⟨Nat.le_refl _,by omega⟩) ?_
   rintro j ⟨hj_,hj2_⟩ mt8
   refine ae 8 [] λ _=>RN.em ((j:Int) < (sz:Int)) 55 (λ h9=>?_) λ h9=>?_
   ·refine ai 24 [.own 0,.nw,.ix (sz+j),.row 1 (sz+j) 0,.nw] [bd ((j:Int)+1),(0+(sz+j) * 1)=(sz+j) * 1+0 /\ (sz+j) < (2 * sz),(sz:Int)+(j:Int)=(((sz+j):Nat):Int) /\ (sz+j) < (2 * sz),bd ((sz:Int)+(j:Int))] λ _=>cR 1 (congrArg (λ v_=>(.rows 1 (2 * sz) v_ 45 (0,0):Blk)) (show (dU (iL (Hh xs sz (j - xs.length))) (sz+j) 0 (.int .u64 (ky (⟨#[101,109,112,116,121]⟩) [])))=(iL (Hh xs sz (j+1 - xs.length))) from (by rw [ri,<- Jf (by omega)];rfl))) ?_
    refine mt8 (j+1) [0,1,2] [] ?_
    try dsimp only
    exact ⟨⟨by omega,by omega⟩,by omega⟩
   ·obtain rfl:sz=j:=by omega
    refine ai 15 [.nw] [bd ((sz:Int) - 1)] λ _=>cR 1 (congrArg (λ v_=>(.rows 1 (2 * sz) v_ 45 (0,0):Blk)) (show (iL (Hh xs sz (sz - xs.length)))=(iL (rZ xs sz (sz - 1 - (sz - 1)))) from (by rw [Nat.sub_self];rfl)))<|aJ 10 (congrArg (λ v_=>(vI v_:Value)) (show (sz:Int) - 1=((sz - 1:Nat):Int) by omega))<|RN.loop (σ:=Nat) (λ k=>⟨[(5,vP (n3+0) 0),(10,vI (k:Int))],[((n3+0),.lit [vI (j8 xs.length:Int),vS (n1+0) 0 xs.length xs.length,vS (n2+0) 0 (2 * sz) (2 * sz)] 150 (0,0)),((n2+0),.rows 1 (2 * sz) (iL (rZ xs sz (sz - 1 - k))) 45 (0,0)),((n1+0),.rows 1 xs.length (aK xs) 3 (0,0))],[],k+1 <= sz,k⟩) (sz - 1) [0,1,2] [] (by omega) ?_
    rintro k hI10 mt11
    refine ae 7 [] λ _=>RN.em ((k:Int) >= 1) 70 (λ h12=>?_) λ h12=>?_
    ·refine ae 5 [] λ _=>RN.draw [24] []<|aH [] [0,4,5,9,13,17,1,6,10,14,18,2,7,15,19,3,8,16,11,20,12,21] [.nw,.nw,.nw,.own 0,.own 0,.own 0,.ix (2 * k),.ix (2 * k+1),.row 1 (2 * k) 0,.row 1 (2 * k+1) 0] [(0+(2 * k+1) * 1)=(2 * k+1) * 1+0 /\ (2 * k+1) < (2 * sz),(0+(2 * k) * 1)=(2 * k) * 1+0 /\ (2 * k) < (2 * sz),(2 * (k:Int))+1=(((2 * k+1):Nat):Int) /\ (2 * k+1) < (2 * sz),2 * (k:Int)=(((2 * k):Nat):Int) /\ (2 * k) < (2 * sz),bd ((2 * (k:Int))+1),bd (2 * (k:Int)),bd (2 * (k:Int))]<|ar [] 22 (λ X_=>(CN ((rZ xs sz (sz - 1 - k)) (2 * k)) ((rZ xs sz (sz - 1 - k)) (2 * k+1)) _))<|aH [] [23] [.ix k] [(k:Int)=((k:Nat):Int) /\ k < (2 * sz)]<|RD.one 24 (ee [] [.row 1 k 0] [(0+k * 1)=k * 1+0 /\ k < (2 * sz)] λ _=>?_)
     refine RD.fin<|ai 7 [.nw] [bd ((k:Int) - 1)] λ _=>cR 1 (congrArg (λ v_=>(.rows 1 (2 * sz) v_ 45 (0,0):Blk)) (show (dU (iL (rZ xs sz (sz - 1 - k))) k 0 (.int .u64 (AP ((rZ xs sz (sz - 1 - k)) (2 * k)) ((rZ xs sz (sz - 1 - k)) (2 * k+1)))))=(iL (rZ xs sz (sz - 1 - (k - 1)))) from (by rw [ri,Jg (by omega) (by omega)])))<|aJ 10 (congrArg (λ v_=>(vI v_:Value)) (show (k:Int) - 1=((k - 1:Nat):Int) by omega)) ?_
     refine mt11 (k - 1) [0,1,2] [] ?_
     try dsimp only
     exact ⟨by omega,by omega⟩
    ·obtain rfl:k=0:=by omega
     refine ae 12 [] λ _=>RN.ret [] [0,2,1] [] (v:=vP (n3+0) 0) (H':=[((n3+0),.lit [vI (j8 xs.length:Int),vS (n1+0) 0 xs.length xs.length,vS (n2+0) 0 (2 * sz) (2 * sz)] 150 (0,0)),((n1+0),.rows 1 xs.length (aK xs) 3 (0,0)),((n2+0),.rows 1 (2 * sz) (iL (rZ xs sz (sz - 1 - 0))) 45 (0,0))]) ?_
     subst hsz
     exact ⟨(_,_,_),rfl,rfl⟩
 ·intro key13
  refine fH 3 6 ?_ ?_
  ·refine ee [] [.mk xs.length xs.length] [(xs.length:Int)=((xs.length:Nat):Int) /\ (xs.length:Int)=((xs.length:Nat):Int) /\ xs.length <= xs.length /\ 8 * xs.length <= 140737488355328 /\ 1=1 /\ xs.length <= 9223372036854775807] λ n14=>RD.one 6 (ee [] [.mk (2 * sz) (2 * sz)] [2 * (sz:Int)=(((2 * sz):Nat):Int) /\ 2 * (sz:Int)=(((2 * sz):Nat):Int) /\ (2 * sz) <= (2 * sz) /\ 8 * (2 * sz) <= 140737488355328 /\ 1=1 /\ (2 * sz) <= 9223372036854775807] λ n15=>?_)
   refine RD.one 7 (RDO.ev [] [] λ _=>?_)
   refine RD.one 8 (RDO.ev [] [] λ n16=>?_)
   refine RD.one 9 (RDO.ev [] [] λ _=>?_)
   exact key13 ⟨n14,n15,n16⟩ [0,1,2] []
  ·refine ee [] [.mk (2 * sz) (2 * sz)] [2 * (sz:Int)=(((2 * sz):Nat):Int) /\ 2 * (sz:Int)=(((2 * sz):Nat):Int) /\ (2 * sz) <= (2 * sz) /\ 8 * (2 * sz) <= 140737488355328 /\ 1=1 /\ (2 * sz) <= 9223372036854775807] λ n17=>RD.one 3 (ee [] [.mk xs.length xs.length] [(xs.length:Int)=((xs.length:Nat):Int) /\ (xs.length:Int)=((xs.length:Nat):Int) /\ xs.length <= xs.length /\ 8 * xs.length <= 140737488355328 /\ 1=1 /\ xs.length <= 9223372036854775807] λ n18=>?_)
   refine RD.one 7 (RDO.ev [] [] λ _=>?_)
   refine RD.one 8 (RDO.ev [] [] λ n19=>?_)
   refine RD.one 9 (RDO.ev [] [] λ _=>?_)
   exact key13 ⟨n18,n17,n19⟩ [0,2,1] []
theorem CO (t cb nb n c:Nat) (h:Int) (f:Nat -> Int) (F:HL) (ht:(t,.lit [vI h,vS cb 0 n n,vS nb 0 c c] 150 (0,0)) ∈ F) (hn:(nb,.rows 1 c (iL f) 45 (0,0)) ∈ F) (hc:2 <= c):Sp Tryz.prog 41 #[vP t 0] [] F (λ u H'=>u=.int .u64 (f 1) /\ H'=[]):=by
 refine Sp.run Tryz.func41 rfl (mc ht (mc hn mn)) (A:=[]) (Ts:=[]) rfl λ w0=>?_
 refine ai 16 [.ro 0,.ix 1,.rorow 1 1 0] [(0+1 * 1)=1 * 1+0 /\ 1 < c,1=((1:Nat):Int) /\ 1 < c] λ _=>?_
 exact RN.ret [] [] [] ⟨rfl,rfl⟩
theorem Jh (q c:Nat) (xs:List Int) (F:HL) (hq:(q,.rows 1 c (aK xs) 3 (0,0)) ∈ F) (hc:xs.length <= c) (hl:xs.length <= 1000000):Sp Tryz.prog 40 #[vS q 0 xs.length c] (ap [] []) F (λ u H'=>∃ x:Nat × Nat × Nat,H'=ap [(x.1,.lit [vI (j8 xs.length:Int),vS x.2.1 0 xs.length xs.length,vS x.2.2 0 (2 * rh xs.length) (2 * rh xs.length)] 150 (0,0)),(x.2.1,.rows 1 xs.length (aK xs) 3 (0,0)),(x.2.2,.rows 1 (2 * rh xs.length) (iL (rZ xs (rh xs.length) (rh xs.length - 1))) 45 (0,0))] [] /\ u=vP x.1 0):=GG q c xs F hq hc hl
theorem tz (q c:Nat) (xs:List Int) (F:HL) (hq:(q,.rows 1 c (aK xs) 3 (0,0)) ∈ F) (hc:xs.length <= c) (hl:xs.length <= 1000000):Sp Tryz.prog 14 #[vS q 0 xs.length c] [] F (λ u H'=>u=.int .u64 (fN xs) /\ H'=[]):=by
 refine Sp.run Tryz.func14 rfl (mc hq mn) (A:=[]) (Ts:=[]) rfl λ w0=>?_
 refine ae 8 [] λ _=>RN.ct (Hp:=[]) (Tp:=[]) [] [] (Jh q c xs _ (aw hq) hc hl) ?_
 rintro _ ⟨t1,c2,n3⟩ rfl
 refine aj (CO t1 c2 n3 xs.length (2 * rh xs.length) (j8 xs.length) (rZ xs (rh xs.length) (rh xs.length - 1)) _ (aB 0) (aB 2) (by have:=(za hl).2.2.1;omega))<|ae 3 [] λ _=>?_
 exact RN.ret [] [] [] ⟨rfl,rfl⟩
end Go.Proofs.YtgdcbiiopbpgaaaGreatDoor
