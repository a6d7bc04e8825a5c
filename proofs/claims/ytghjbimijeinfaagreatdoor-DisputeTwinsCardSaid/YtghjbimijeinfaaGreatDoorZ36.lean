import Derived.Test.YtghjbimijeinfaaGreatDoorZ35
import Derived.Test.YtghjbimijeinfaaGreatDoorZ31
set_option maxHeartbeats 4000000
set_option maxRecDepth 100000
set_option linter.unusedSimpArgs false
set_option linter.unusedVariables false
namespace Go.Proofs.YtghjbimijeinfaaGreatDoor
open Go.RowKit
def FY (i v:Int):Int:=tj ⟨#[108,101,97,102]⟩ [i,v]
def Aq (a b:Int):Int:=tj ⟨#[112,97,105,114]⟩ [aY a,aY b]
def FZ:Int:=tj ⟨#[101,109,112,116,121]⟩ []
def jX (n:Nat):Nat:=if n <= 1 then 0 else Lib.bitLen (n - 1)
def qM (n:Nat):Nat:=2 ^ jX n
theorem Ld {n:Nat} (h:(n:Int) <= 1):jX n=0:=by
 unfold jX
 rw [if_pos (by omega)]
theorem Lf {n:Nat} (hl:n <= 1000000) (h:¬ (n:Int) <= 1):tf ((n:Int) - 1)=(jX n:Int):=by
 unfold jX tf
 rw [if_neg (by omega)]
 have e:(uz ((n:Int) - 1)).toNat=n - 1:=by
  rw [show uz ((n:Int) - 1)=(n:Int) - 1 by rw [uz,IntKind.wrap];simp [IntKind.signed,IntKind.bits];omega]
  omega
 rw [e]
theorem JC:∀ (f x:Nat),x < 2 ^ f -> x ≠ 0 -> ∃ m,Lib.bitLenAux f x=m+1 /\ 2 ^ m <= x /\ x < 2 ^ (m+1)
 | 0,x,h,h0=>absurd (by simpa using h) h0
 | f+1,x,h,h0=>by
  rw [Lib.bitLenAux,if_neg h0]
  by_cases h2:x / 2=0
  ·have e:Lib.bitLenAux f (x / 2)=0:=by rw [h2];cases f <;> simp [Lib.bitLenAux]
   rw [e]
   exact ⟨0,rfl,by simp;omega,by simp;omega⟩
  ·obtain ⟨m,e,h3,h4⟩:=JC f (x / 2) (by rw [Nat.pow_succ] at h;omega) h2
   rw [e]
   exact ⟨m+1,by omega,by rw [Nat.pow_succ];omega,by rw [Nat.pow_succ];omega⟩
theorem yH {n:Nat} (h:n <= 1000000):jX n <= 20 /\ n <= qM n /\ 1 <= qM n /\ qM n <= 2000000:=by
 unfold qM jX
 by_cases h1:n <= 1
 ·rw [if_pos h1]
  simp
  omega
 ·rw [if_neg h1]
  obtain ⟨m,e,b2,b3⟩:=JC 64 (n - 1) (by omega) (by omega)
  rw [show Lib.bitLen (n - 1)=m+1 from e]
  have hm:m < 20:=by
   apply Classical.byContradiction
   intro hn
   have:=Nat.pow_le_pow_right (n:=2) (by omega) (show 20 <= m by omega)
   omega
  rw [Nat.pow_succ] at b3 ⊢
  omega
theorem MT {n:Nat} (h:n <= 1000000):IntKind.i64.wrap (1 * 2 ^ min ((jX n:Int)).toNat 64)=(qM n:Int):=by
 obtain ⟨h1,h2,h3,h4⟩:=yH h
 rw [Int.toNat_natCast,Nat.min_eq_left (by omega),IntKind.wrap_i64]
 have e:(1:Int) * 2 ^ jX n=(qM n:Int):=by
  unfold qM
  rw [Int.one_mul]
  norm_cast
 rw [e]
 omega
def iB (f:Nat -> Int):Nat -> Nat -> Value:=λ i k=>match k with | 0=>.int .u64 (f i) | _=>default
def yI (f:Nat -> Int) (i:Nat) (v:Int):Nat -> Int:=λ j=>if j=i then v else f j
theorem qN (f:Nat -> Int) (i:Nat) (v:Int):dU (iB f) i 0 (.int .u64 v)=iB (yI f i v):=by
 funext j k
 unfold dU iB yI
 cases k with
 | zero=>by_cases h:j=i <;> simp [h]
 | succ k=>simp
def JD (xs:List Int) (sz:Nat):Nat -> Nat -> Int
 | 0=>λ _=>0
 | i+1=>yI (JD xs sz i) (sz+i) (FY i (xs.getD i 0))
def GE (xs:List Int) (sz:Nat):Nat -> Nat -> Int
 | 0=>JD xs sz xs.length
 | m+1=>yI (GE xs sz m) (sz+(xs.length+m)) FZ
def ry (xs:List Int) (sz:Nat):Nat -> Nat -> Int
 | 0=>GE xs sz (sz - xs.length)
 | m+1=>yI (ry xs sz m) (sz - 1 - m) (Aq (ry xs sz m (2 * (sz - 1 - m))) (ry xs sz m (2 * (sz - 1 - m)+1)))
def lP (xs:List Int):Int:=ry xs (qM xs.length) (qM xs.length - 1) 1
theorem Cq (xs:List Int) (sz:Nat):oJ [.int .u64 0]=iB (JD xs sz 0):=by
 funext j k
 cases k with
 | zero=>rfl
 | succ k=>simp [oJ,iB]
theorem IG {xs:List Int} {sz j:Nat} (h:xs.length <= j):yI (GE xs sz (j - xs.length)) (sz+j) FZ=GE xs sz (j+1 - xs.length):=by
 rw [show j+1 - xs.length=(j - xs.length)+1 by omega,GE,show xs.length+(j - xs.length)=j by omega]
theorem IH {xs:List Int} {sz k:Nat} (h:k+1 <= sz) (h1:1 <= k):yI (ry xs sz (sz - 1 - k)) k (Aq (ry xs sz (sz - 1 - k) (2 * k)) (ry xs sz (sz - 1 - k) (2 * k+1)))=ry xs sz (sz - 1 - (k - 1)):=by
 rw [show sz - 1 - (k - 1)=(sz - 1 - k)+1 by omega,ry,show sz - 1 - (sz - 1 - k)=k by omega]
theorem Cr (xs:List Int) {n:Nat} (h:xs.length=n):bz 1 (aK xs) n=xs.map vI:=by
 refine gV (by simpa using h) λ i k hi hk=>?_
 obtain rfl:k=0:=by omega
 have hi2:i < xs.length:=by omega
 simp [aK,List.getD_eq_getElem?_getD,List.getElem?_eq_getElem hi2]
theorem F1 {q c:Nat} {ty:TypeId} {xs:List Int} {H F:HL} (hq:(q,.rows 1 c (aK xs) ty (0,0)) ∈ H++F) (hc:xs.length <= c):∀ w,Rel (H++F) w -> ∀ j v,(xs.map vI)[j]?=some v -> w.cell? (Addr.add ⟨q,0,none⟩ j)=some v:=by
 intro w hr j v hv
 have hj:j < xs.length:=by
  have:=(List.getElem?_eq_some_iff.1 hv).1
  simpa using this
 have hb:=hr.holds _ hq
 rw [show Addr.add ⟨q,0,none⟩ j=⟨q,j,none⟩ by unfold Addr.add;split <;> simp_all,jb (i:=j) (k:=0) hb rfl rfl (by simp) (by omega) (by omega)]
 rw [<- hv]
 simp [aK,List.getD_eq_getElem?_getD,List.getElem?_eq_getElem hj]
theorem Lg {xs:List Int}:∀ v ∈ xs.map vI,v.oneCell'=true:=by
 intro v hv
 obtain ⟨x,_,rfl⟩:=List.mem_map.1 hv
 rfl
theorem F3 (b:ByteArray) (F:HL) (hb:b.size <= 1000000):Sp Tryz.prog 114 #[.string b,.slice none 0 0] [] F (λ u H'=>u=.int .u64 (tj b []) /\ H'=[]):=by
 refine Sp.run Tryz.func114 rfl mn (A:=[]) (Ts:=[]) rfl λ w0=>?_
 refine ae 10 [] λ _=>aj (pL b 0 _ (by assumption))<|ae 12 [] λ _=>RN.rounds 1<|ae 15 [] λ _=>aj (kW (nv b 0) 0 _)<|ae 3 [] λ _=>?_
 exact RN.ret [] [] [] ⟨rfl,rfl⟩
theorem yJ (n:Nat) (F:HL) (hl:n <= 1000000):Sp Tryz.prog 68 #[vI (n:Int)] [] F (λ u H'=>u=vI (jX n:Int) /\ H'=[]):=by
 refine Sp.run Tryz.func68 rfl mn (A:=[]) (Ts:=[]) rfl λ w0=>?_
 refine ae 12 [] λ _=>RN.em ((n:Int) <= 1) 4 (λ h1=>?_) λ h1=>?_
 ·refine ae 6 [] λ _=>RN.ret [] [] [] (v:=vI 0) (H':=[]) ?_
  exact ⟨congrArg (λ x:Nat=>vI (x:Int)) (Ld (by assumption)).symm,rfl⟩
 ·refine al 8 [.nw] [bq ((n:Int) - 1)] λ _=>aj (uA ((n:Int) - 1) _)<|ae 3 [] λ _=>RN.ret [] [] [] (v:=vI (tf ((n:Int) - 1))) (H':=[]) ?_
  exact ⟨congrArg vI (Lf hl (by assumption)),rfl⟩
theorem Cs (i v:Int) (F:HL):Sp Tryz.prog 71 #[vI i,vI v] [] F (λ u H'=>u=.int .u64 (FY i v) /\ H'=[]):=by
 refine Sp.run Tryz.func71 rfl mn (A:=[]) (Ts:=[]) rfl λ w0=>?_
 refine ae 10 [] λ n1=>RN.dn 0 (.rows 1 2 (aK [i,v]) 3 (0,0))<|aj (pM (⟨#[108,101,97,102]⟩) ([i,v]) (n1+0) 2 _ (by decide) (Nat.le_of_ble_eq_true rfl) (Nat.le_of_ble_eq_true rfl) (aC 0))<|ae 3 [] λ _=>?_
 exact RN.ret [] [] [] ⟨rfl,rfl⟩
theorem Ct (a b:Int) (F:HL):Sp Tryz.prog 116 #[.int .u64 a,.int .u64 b] [] F (λ u H'=>u=.int .u64 (Aq a b) /\ H'=[]):=by
 refine Sp.run Tryz.func116 rfl mn (A:=[]) (Ts:=[]) rfl λ w0=>?_
 refine ae 12 [] λ n1=>RN.dn 0 (.rows 1 2 (aK [IntKind.i64.wrap a,IntKind.i64.wrap b]) 3 (0,0))<|aj (pM (⟨#[112,97,105,114]⟩) ([IntKind.i64.wrap a,IntKind.i64.wrap b]) (n1+0) 2 _ (by decide) (Nat.le_of_ble_eq_true rfl) (Nat.le_of_ble_eq_true rfl) (aC 0))<|ae 3 [] λ _=>?_
 exact RN.ret [] [] [] ⟨rfl,rfl⟩
theorem F4 (q c:Nat) (xs:List Int) (F:HL) (hq:(q,.rows 1 c (aK xs) 3 (0,0)) ∈ F) (hc:xs.length <= c) (hl:xs.length <= 1000000):Sp Tryz.prog 181 #[vS q 0 xs.length c] [] F (λ u H'=>∃ x:Nat × Nat × Nat,H'=ap [(x.1,.lit [vI (jX xs.length:Int),vS x.2.1 0 xs.length xs.length,vS x.2.2 0 (2 * qM xs.length) (2 * qM xs.length)] 353 (0,0)),(x.2.1,.rows 1 xs.length (aK xs) 3 (0,0)),(x.2.2,.rows 1 (2 * qM xs.length) (iB (ry xs (qM xs.length) (qM xs.length - 1))) 77 (0,0))] [] /\ u=vP x.1 0):=by
 obtain ⟨hb1,hb2,hb3,hb4⟩:=yH hl
 have he:=MT hl
 obtain ⟨sz,hsz⟩:∃ sz,qM xs.length=sz:=⟨_,rfl⟩
 rw [hsz] at hb2 hb3 hb4 he
 refine Sp.run Tryz.func181 rfl (mc hq mn) (A:=[]) (Ts:=[]) rfl λ w0=>?_
 refine ae 9 [] λ _=>aj (yJ xs.length _ hl)<|al 11 [.dv] [0 <= (jX xs.length:Int)] λ _=>RN.draw [] []<|Aj 4 (congrArg (λ v_=>(vI v_:Value)) he)<|aJ [] [0,1,4,2,5] [.nw] [bq (2 * (sz:Int))]<|ie (σ:=Nat × Nat × Nat) (λ ⟨n1,n2,n3⟩=>⟨[(0,vS q 0 xs.length c),(4,vI (sz:Int)),(5,vP (n3+0) 0)],[((n3+0),.lit [vI (jX xs.length:Int),vS (n1+0) 0 xs.length xs.length,vS (n2+0) 0 (2 * sz) (2 * sz)] 353 (0,0)),((n2+0),.rows 1 (2 * sz) (oJ [.int .u64 0]) 77 (0,0)),((n1+0),.rows 1 xs.length (oJ [vI 0]) 3 (0,0))],[],True,0⟩) ?_ ?_
 ·rintro ⟨n1,n2,n3⟩
  refine ae 8 [.own 0] λ _=>RN.cpy (b:=(n1+0)) (n:=xs.length) (cap:=xs.length) (m:=xs.length) (c':=c) (a:=⟨q,0,none⟩) (T:=3) (t:=22) (tx:=22) (ty:=3) (g:=(oJ [vI 0])) 2 (.rows 1 xs.length (aK xs) 3 (0,0)) (xs.map vI) (by simp) rfl Lg rfl (F1 (List.mem_append_right _ hq) hc) (congrArg (λ l:List Value=>(Obj.cells ⟨l⟩ 3 (0,0))) (Cr xs rfl))<|ae 11 [] λ _=>fc 1 (congrArg (λ v_=>(.rows 1 (2 * sz) v_ 77 (0,0):Blk)) (show (oJ [.int .u64 0])=(iB (JD xs sz 0)) from Cq xs sz))<|RN.loop (σ:=Nat) (λ i=>⟨[(0,vS q 0 xs.length c),(4,vI (sz:Int)),(5,vP (n3+0) 0),(31,vS q 0 xs.length c),(32,vI (xs.length:Int)),(33,vI (i:Int))],[((n3+0),.lit [vI (jX xs.length:Int),vS (n1+0) 0 xs.length xs.length,vS (n2+0) 0 (2 * sz) (2 * sz)] 353 (0,0)),((n2+0),.rows 1 (2 * sz) (iB (JD xs sz i)) 77 (0,0)),((n1+0),.rows 1 xs.length (aK xs) 3 (0,0))],[],i <= xs.length,xs.length - i⟩) 0 [0,1,2] [] (Nat.zero_le _) ?_
  rintro i hI4 mt5
  refine ae 6 [] λ _=>RN.em ((i:Int) < (xs.length:Int)) 34 (λ h6=>?_) λ h6=>?_
  ·refine al 14 [.ix i,.rorow 0 i 0] [(0+i * 1)=i * 1+0 /\ i < c,(i:Int)=((i:Nat):Int) /\ i < xs.length] λ _=>RN.draw [11] []<|aJ [] [0,4,5,7,8,1,6,2,3] [.nw,.own 0] [bq ((sz:Int)+(i:Int))]<|ar [] 9 (λ X_=>(Cs (i:Int) (xs.getD i 0) _))<|aJ [] [10] [.ix (sz+i)] [(sz:Int)+(i:Int)=(((sz+i):Nat):Int) /\ (sz+i) < (2 * sz)]<|RD.one 11 (dV [] [.row 1 (sz+i) 0] [(0+(sz+i) * 1)=(sz+i) * 1+0 /\ (sz+i) < (2 * sz)] λ _=>?_)
   refine RD.fin<|al 6 [.nw] [bq ((i:Int)+1)] λ _=>fc 1 (congrArg (λ v_=>(.rows 1 (2 * sz) v_ 77 (0,0):Blk)) (show (dU (iB (JD xs sz i)) (sz+i) 0 (.int .u64 (FY (i:Int) (xs.getD i 0))))=(iB (JD xs sz (i+1))) from (qN _ _ _))) ?_
   refine mt5 (i+1) [0,1,2] [] ?_
   try dsimp only
   exact ⟨by omega,by omega⟩
  ·obtain rfl:i=xs.length:=by omega
   refine ae 8 [] λ _=>aj (F3 (⟨#[101,109,112,116,121]⟩) _ (by decide))<|ae 12 [] λ _=>fc 1 (congrArg (λ v_=>(.rows 1 (2 * sz) v_ 77 (0,0):Blk)) (show (iB (JD xs sz xs.length))=(iB (GE xs sz (xs.length - xs.length))) from (by rw [Nat.sub_self];rfl)))<|RN.loop (σ:=Nat) (λ j=>⟨[(4,vI (sz:Int)),(5,vP (n3+0) 0),(8,.int .u64 (tj (⟨#[101,109,112,116,121]⟩) [])),(9,vI (j:Int))],[((n3+0),.lit [vI (jX xs.length:Int),vS (n1+0) 0 xs.length xs.length,vS (n2+0) 0 (2 * sz) (2 * sz)] 353 (0,0)),((n2+0),.rows 1 (2 * sz) (iB (GE xs sz (j - xs.length))) 77 (0,0)),((n1+0),.rows 1 xs.length (aK xs) 3 (0,0))],[],xs.length <= j /\ j <= sz,sz - j⟩) xs.length [0,1,2] [] (⟨Nat.le_refl _,by omega⟩) ?_
   rintro j ⟨hj_,hj2_⟩ mt8
   refine ae 8 [] λ _=>RN.em ((j:Int) < (sz:Int)) 55 (λ h9=>?_) λ h9=>?_
   ·refine al 24 [.own 0,.nw,.ix (sz+j),.row 1 (sz+j) 0,.nw] [bq ((j:Int)+1),(0+(sz+j) * 1)=(sz+j) * 1+0 /\ (sz+j) < (2 * sz),(sz:Int)+(j:Int)=(((sz+j):Nat):Int) /\ (sz+j) < (2 * sz),bq ((sz:Int)+(j:Int))] λ _=>fc 1 (congrArg (λ v_=>(.rows 1 (2 * sz) v_ 77 (0,0):Blk)) (show (dU (iB (GE xs sz (j - xs.length))) (sz+j) 0 (.int .u64 (tj (⟨#[101,109,112,116,121]⟩) [])))=(iB (GE xs sz (j+1 - xs.length))) from (by rw [qN,<- IG (by omega)];rfl))) ?_
    refine mt8 (j+1) [0,1,2] [] ?_
    try dsimp only
    exact ⟨⟨by omega,by omega⟩,by omega⟩
   ·obtain rfl:sz=j:=by omega
    refine al 15 [.nw] [bq ((sz:Int) - 1)] λ _=>fc 1 (congrArg (λ v_=>(.rows 1 (2 * sz) v_ 77 (0,0):Blk)) (show (iB (GE xs sz (sz - xs.length)))=(iB (ry xs sz (sz - 1 - (sz - 1)))) from (by rw [Nat.sub_self];rfl)))<|bJ 10 (congrArg (λ v_=>(vI v_:Value)) (show (sz:Int) - 1=((sz - 1:Nat):Int) by omega))<|RN.loop (σ:=Nat) (λ k=>⟨[(5,vP (n3+0) 0),(10,vI (k:Int))],[((n3+0),.lit [vI (jX xs.length:Int),vS (n1+0) 0 xs.length xs.length,vS (n2+0) 0 (2 * sz) (2 * sz)] 353 (0,0)),((n2+0),.rows 1 (2 * sz) (iB (ry xs sz (sz - 1 - k))) 77 (0,0)),((n1+0),.rows 1 xs.length (aK xs) 3 (0,0))],[],k+1 <= sz,k⟩) (sz - 1) [0,1,2] [] (by omega) ?_
    rintro k hI10 mt11
    refine ae 7 [] λ _=>RN.em ((k:Int) >= 1) 70 (λ h12=>?_) λ h12=>?_
    ·refine ae 5 [] λ _=>RN.draw [24] []<|aJ [] [0,4,5,9,13,17,1,6,10,14,18,2,7,15,19,3,8,16,11,20,12,21] [.nw,.nw,.nw,.own 0,.own 0,.own 0,.ix (2 * k),.ix (2 * k+1),.row 1 (2 * k) 0,.row 1 (2 * k+1) 0] [(0+(2 * k+1) * 1)=(2 * k+1) * 1+0 /\ (2 * k+1) < (2 * sz),(0+(2 * k) * 1)=(2 * k) * 1+0 /\ (2 * k) < (2 * sz),(2 * (k:Int))+1=(((2 * k+1):Nat):Int) /\ (2 * k+1) < (2 * sz),2 * (k:Int)=(((2 * k):Nat):Int) /\ (2 * k) < (2 * sz),bq ((2 * (k:Int))+1),bq (2 * (k:Int)),bq (2 * (k:Int))]<|ar [] 22 (λ X_=>(Ct ((ry xs sz (sz - 1 - k)) (2 * k)) ((ry xs sz (sz - 1 - k)) (2 * k+1)) _))<|aJ [] [23] [.ix k] [(k:Int)=((k:Nat):Int) /\ k < (2 * sz)]<|RD.one 24 (dV [] [.row 1 k 0] [(0+k * 1)=k * 1+0 /\ k < (2 * sz)] λ _=>?_)
     refine RD.fin<|al 7 [.nw] [bq ((k:Int) - 1)] λ _=>fc 1 (congrArg (λ v_=>(.rows 1 (2 * sz) v_ 77 (0,0):Blk)) (show (dU (iB (ry xs sz (sz - 1 - k))) k 0 (.int .u64 (Aq ((ry xs sz (sz - 1 - k)) (2 * k)) ((ry xs sz (sz - 1 - k)) (2 * k+1)))))=(iB (ry xs sz (sz - 1 - (k - 1)))) from (by rw [qN,IH (by omega) (by omega)])))<|bJ 10 (congrArg (λ v_=>(vI v_:Value)) (show (k:Int) - 1=((k - 1:Nat):Int) by omega)) ?_
     refine mt11 (k - 1) [0,1,2] [] ?_
     try dsimp only
     exact ⟨by omega,by omega⟩
    ·obtain rfl:k=0:=by omega
     refine ae 12 [] λ _=>RN.ret [] [0,2,1] [] (v:=vP (n3+0) 0) (H':=[((n3+0),.lit [vI (jX xs.length:Int),vS (n1+0) 0 xs.length xs.length,vS (n2+0) 0 (2 * sz) (2 * sz)] 353 (0,0)),((n1+0),.rows 1 xs.length (aK xs) 3 (0,0)),((n2+0),.rows 1 (2 * sz) (iB (ry xs sz (sz - 1 - 0))) 77 (0,0))]) ?_
     subst hsz
     exact ⟨(_,_,_),rfl,rfl⟩
 ·intro key13
  refine ee 3 6 ?_ ?_
  ·refine dV [] [.mk xs.length xs.length] [(xs.length:Int)=((xs.length:Nat):Int) /\ (xs.length:Int)=((xs.length:Nat):Int) /\ xs.length <= xs.length /\ 8 * xs.length <= 140737488355328 /\ 1=1 /\ xs.length <= 9223372036854775807] λ n14=>RD.one 6 (dV [] [.mk (2 * sz) (2 * sz)] [2 * (sz:Int)=(((2 * sz):Nat):Int) /\ 2 * (sz:Int)=(((2 * sz):Nat):Int) /\ (2 * sz) <= (2 * sz) /\ 8 * (2 * sz) <= 140737488355328 /\ 1=1 /\ (2 * sz) <= 9223372036854775807] λ n15=>?_)
   refine RD.one 7 (RDO.ev [] [] λ _=>?_)
   refine RD.one 8 (RDO.ev [] [] λ n16=>?_)
   refine RD.one 9 (RDO.ev [] [] λ _=>?_)
   exact key13 ⟨n14,n15,n16⟩ [0,1,2] []
  ·refine dV [] [.mk (2 * sz) (2 * sz)] [2 * (sz:Int)=(((2 * sz):Nat):Int) /\ 2 * (sz:Int)=(((2 * sz):Nat):Int) /\ (2 * sz) <= (2 * sz) /\ 8 * (2 * sz) <= 140737488355328 /\ 1=1 /\ (2 * sz) <= 9223372036854775807] λ n17=>RD.one 3 (dV [] [.mk xs.length xs.length] [(xs.length:Int)=((xs.length:Nat):Int) /\ (xs.length:Int)=((xs.length:Nat):Int) /\ xs.length <= xs.length /\ 8 * xs.length <= 140737488355328 /\ 1=1 /\ xs.length <= 9223372036854775807] λ n18=>?_)
   refine RD.one 7 (RDO.ev [] [] λ _=>?_)
   refine RD.one 8 (RDO.ev [] [] λ n19=>?_)
   refine RD.one 9 (RDO.ev [] [] λ _=>?_)
   exact key13 ⟨n18,n17,n19⟩ [0,2,1] []
theorem Cu (t cb nb n c:Nat) (h:Int) (f:Nat -> Int) (F:HL) (ht:(t,.lit [vI h,vS cb 0 n n,vS nb 0 c c] 353 (0,0)) ∈ F) (hn:(nb,.rows 1 c (iB f) 77 (0,0)) ∈ F) (hc:2 <= c):Sp Tryz.prog 182 #[vP t 0] [] F (λ u H'=>u=.int .u64 (f 1) /\ H'=[]):=by
 refine Sp.run Tryz.func182 rfl (mc ht (mc hn mn)) (A:=[]) (Ts:=[]) rfl λ w0=>?_
 refine al 16 [.ro 0,.ix 1,.rorow 1 1 0] [(0+1 * 1)=1 * 1+0 /\ 1 < c,1=((1:Nat):Int) /\ 1 < c] λ _=>?_
 exact RN.ret [] [] [] ⟨rfl,rfl⟩
theorem II (q c:Nat) (xs:List Int) (F:HL) (hq:(q,.rows 1 c (aK xs) 3 (0,0)) ∈ F) (hc:xs.length <= c) (hl:xs.length <= 1000000):Sp Tryz.prog 181 #[vS q 0 xs.length c] (ap [] []) F (λ u H'=>∃ x:Nat × Nat × Nat,H'=ap [(x.1,.lit [vI (jX xs.length:Int),vS x.2.1 0 xs.length xs.length,vS x.2.2 0 (2 * qM xs.length) (2 * qM xs.length)] 353 (0,0)),(x.2.1,.rows 1 xs.length (aK xs) 3 (0,0)),(x.2.2,.rows 1 (2 * qM xs.length) (iB (ry xs (qM xs.length) (qM xs.length - 1))) 77 (0,0))] [] /\ u=vP x.1 0):=F4 q c xs F hq hc hl
theorem sU (q c:Nat) (xs:List Int) (F:HL) (hq:(q,.rows 1 c (aK xs) 3 (0,0)) ∈ F) (hc:xs.length <= c) (hl:xs.length <= 1000000):Sp Tryz.prog 117 #[vS q 0 xs.length c] [] F (λ u H'=>u=.int .u64 (lP xs) /\ H'=[]):=by
 refine Sp.run Tryz.func117 rfl (mc hq mn) (A:=[]) (Ts:=[]) rfl λ w0=>?_
 refine ae 8 [] λ _=>RN.ct (Hp:=[]) (Tp:=[]) [] [] (II q c xs _ (aw hq) hc hl) ?_
 rintro _ ⟨t1,c2,n3⟩ rfl
 refine aj (Cu t1 c2 n3 xs.length (2 * qM xs.length) (jX xs.length) (ry xs (qM xs.length) (qM xs.length - 1)) _ (aC 0) (aC 2) (by have:=(yH hl).2.2.1;omega))<|ae 3 [] λ _=>?_
 exact RN.ret [] [] [] ⟨rfl,rfl⟩
open Go.Shelf
section
variable {r:Option Nat} {P:Program} {N:Nat} {D:List Deferred} {F:HL} {w0:World} {R:HL} {s:Cfg} {Q:Exit -> Act -> World -> Prop}
end
section
variable {α:Type} {e:Enc α} {T:TypeId} {F:HL} {A:Option Addr} {n cap:Nat} {xs:List α} {Hl:HL}
end
section
variable {tk:Int} {S S1 S2:Setup} {rs_:List Bx} {ds_:List Dr} {bp gb n cap k t j1 j2:Nat} {A:Option Addr} {rs:List Rw} {xss:List (List Inp)} {M R:MemS} {G0 F TB:HL}
end
def Setup.std (S:Setup):Setup:={ S with bo:=0,bods:=iT S }
theorem mv (S:Setup):SetEq S S.std:=⟨⟨rfl,rfl,rfl,rfl,rfl,rfl,rfl,rfl,rfl,rfl,rfl,rfl⟩,λ k hk=>⟨(S.body k).sh.A,(S.body k).sh.cap,by
 show (iT S).getD (0+k) dB=_
 rw [Nat.zero_add,gU hk]
 rfl⟩,rfl,fw S⟩
section
variable {S S2:Setup} {J:Nat -> Nat × Int} {xss:List (List Inp)} {n:Nat}
theorem Cv {α:Type} {l:List α} {i:Nat} (h:i < l.length) (d:α):l.take (i+1)=l.take i++[l.getD i d]:=by
 rw [List.take_add_one,List.getElem?_eq_getElem h,List.getD_eq_getElem?_getD,List.getElem?_eq_getElem h]
 rfl
end
def qO (on:Bool) (tr ix v:Int) (k:Nat) (M:MemS):MemS:=if on=true then (if (k:Int)=tr then M.set ix v else M) else M
theorem IJ (tr ix v:Int) (k:Nat) (M:MemS):qO false tr ix v k M=M:=rfl
def mz (g:Gm) (f:Nat -> MemS -> MemS):Nat -> Nat -> MemS -> MemS
 | 0,_,M=>M
 | n+1,k,M=>mz g f n (k+1) (fJ g (f k M))
def yK (g:Gm) (f:Nat -> MemS -> MemS):Nat -> Nat -> MemS -> Prop
 | 0,_,_=>False
 | n+1,k,M=>Bi (f k M) /\ ((n=0 /\ gH g (f k M)=true) \/ (gH g (f k M)=false /\ yK g f n (k+1) (fJ g (f k M))))
def Lh (g:Gm) (f:Nat -> MemS -> MemS):Nat -> Nat -> MemS -> Nat
 | 0,_,_=>0
 | n+1,k,M=>if gH g (f k M)=true then 0 else Lh g f n (k+1) (fJ g (f k M))+1
theorem F5 {g:Gm} {f:Nat -> MemS -> MemS}:∀ (m n k:Nat) (M:MemS),yK g f (m+1) k M -> m < n -> Lh g f n k M=m
 | m,0,_,_,_,h=>by omega
 | 0,n+1,k,M,h,_=>by
  rcases h.2 with ⟨_,e⟩ | ⟨_,e⟩
  ·rw [Lh,if_pos e]
  ·exact e.elim
 | m+1,n+1,k,M,h,hn=>by
  rcases h.2 with ⟨e,_⟩ | ⟨e1,e2⟩
  ·omega
  ·rw [Lh,if_neg (by rw [e1];simp),F5 m n _ _ e2 (by omega)]
theorem IK (g:Gm) (a b c:Int):∀ (n k:Nat) (M:MemS),mz g (qO false a b c) n k M=fE g n M
 | 0,_,_=>rfl
 | n+1,k,M=>by rw [mz,IJ,fE,IK g a b c n]
theorem Ar (g:Gm) (f:Nat -> MemS -> MemS):∀ (a b k:Nat) (M:MemS),mz g f (a+b) k M=mz g f b (k+a) (mz g f a k M)
 | 0,b,k,M=>by rw [Nat.zero_add];rfl
 | a+1,b,k,M=>by
  rw [show a+1+b=(a+b)+1 by omega,mz,mz,Ar g f a b (k+1),show k+1+a=k+(a+1) by omega]
theorem ng (g:Gm) (f:Nat -> MemS -> MemS) (a k:Nat) (M:MemS):mz g f (a+1) k M=fJ g (f (k+a) (mz g f a k M)):=by rw [Ar g f a 1];rfl
def ub (S:Setup) (ix:Int):Prop:=(32 <= ix /\ ix < 48) \/ 48+4 * S.players <= ix
theorem TV.ch {S:Setup} {ins:Nat -> Inp} {M:MemS} (hS:SetV S) (h:TV S ins M) {ix:Int} (v:Int) (hc:ub S ix):TV S ins (M.set ix v) /\ jE S (M.set ix v)=jE S M /\ (M.set ix v).get 0=M.get 0:=by
 have hp:=hS.pl
 have hne:∀ j:Int,j < 32 \/ (48 <= j /\ j < 48+4 * S.players) -> (M.set ix v).get j=M.get j:=λ j hj=>bj (by rcases hc with hc | hc <;> omega)
 have g0:=hne 0 (by omega)
 have g1:=hne 1 (by omega)
 have g2:=hne 2 (by omega)
 have g3:=hne 3 (by omega)
 have g4:=hne 4 (by omega)
 have g8:=hne 8 (by omega)
 have g11:=hne 11 (by omega)
 refine ⟨⟨by rw [aI];exact h.len,by rw [g0];exact h.t0,by rw [g1,g2,g3,g4,g8];exact h.ct,λ q hq=>?_,?_⟩,?_,g0⟩
 ·rw [g1,g2] at hq
  have hq2:(q:Int) < S.players:=by
   rcases h.ct with k | k | k | k | k | k | k | k <;> (split at hq <;> omega)
  rw [hne _ (by omega),hne _ (by omega),hne _ (by omega)]
  exact h.pl q hq
 ·rw [show yD (M.set ix v)=yD M by unfold yD;rw [g1,g2],g11];exact h.ec
 ·unfold jE;rw [g1,g2,g3,g4,g8]
theorem JE {S:Setup} (hS:SetV S) {g:Gm} (hg:g.S=S) {ins:Nat -> Inp} (hi:∀ q:Nat,(q:Int) < S.players -> g.ins.getD (g.io+q) dI=ins q) (hni:S.players <= g.ni) {f:Nat -> MemS -> MemS} (hf:∀ k M,TV S ins M -> TV S ins (f k M) /\ jE S (f k M)=jE S M /\ (f k M).get 0=M.get 0):∀ (n k:Nat) (M:MemS),TV S ins M -> jE S M <= n ->
  ∃ m,m+1 <= n /\ yK g f (m+1) k M /\ (∀ j:Int,1 <= j -> j <= 10 -> (mz g f (m+1) k M).get j=0) /\ ((mz g f (m+1) k M).cs.length:Int)=sizeOf S /\ (mz g f (m+1) k M).get 0=M.get 0+1
 | 0,k,M,h,hl=>by
  have:=ua hS.pl ⟨by have:=hS.nb;omega,by have:=hS.nb;omega⟩ hS.ro h.ct
  unfold jE at hl;omega
 | n+1,k,M,h,hl=>by
  obtain ⟨hv,hlf,h0⟩:=hf k M h
  obtain ⟨hph,⟨e1,hx⟩ | ⟨e1,hx,hem,hst,h11⟩⟩:=JA hS hg hi hni hv
  ·obtain ⟨m,hm,k1,k2,k3,k4⟩:=JE hS hg hi hni hf n (k+1) (fJ g (f k M)) hx.tv (by have h_:jE S (fJ g (f k M)) < jE S (f k M):=hx.lt;omega)
   refine ⟨m+1,by omega,⟨hph,.inr ⟨e1,k1⟩⟩,k2,k3,?_⟩
   rw [mz,k4,hx.t0,h0]
  ·exact ⟨0,by omega,⟨hph,.inl ⟨rfl,e1⟩⟩,hx.z,hx.len,by rw [mz,mz];rw [hx.t0,h0]⟩
def WC (S:Setup) (J:Nat -> Nat × Int) (xss:List (List Inp)) (f:Nat -> Nat -> MemS -> MemS) (c0:List Int):Nat -> List Int
 | 0=>c0
 | t+1=>(mz (gu S (J t) (xss.getD t [])) (f t) (Lh (gu S (J t) (xss.getD t [])) (f t) 1000 0 ⟨WC S J xss f c0 t,[],0⟩+1) 0 ⟨WC S J xss f c0 t,[],0⟩).cs
abbrev LC (S:Setup) (J:Nat -> Nat × Int) (xss:List (List Inp)) (f:Nat -> Nat -> MemS -> MemS) (c0:List Int) (t:Nat):Nat:=Lh (gu S (J t) (xss.getD t [])) (f t) 1000 0 ⟨WC S J xss f c0 t,[],0⟩
abbrev fC (ct tr ix v:Int):Nat -> Nat -> MemS -> MemS:=λ t=>qO (decide ((t:Int)=ct)) tr ix v
theorem MU {S:Setup} (hS:SetV S) {ct tr ix:Int} (v:Int) (hc:ct < 0 \/ ub S ix) (t:Nat) {ins:Nat -> Inp} (k:Nat) (M:MemS) (h:TV S ins M):TV S ins (fC ct tr ix v t k M) /\ jE S (fC ct tr ix v t k M)=jE S M /\ (fC ct tr ix v t k M).get 0=M.get 0:=by
 unfold fC qO
 split
 ·next e =>
  have e:=of_decide_eq_true e
  split
  ·exact TV.ch hS h v (hc.resolve_left (by omega))
  ·exact ⟨h,rfl,rfl⟩
 ·exact ⟨h,rfl,rfl⟩
theorem JF {S:Setup} (hS:SetV S) {J:Nat -> Nat × Int} {xss:List (List Inp)} {n:Nat} (hn:n <= 900) (hr:∀ i,i < n -> gL S.players (xss.getD i [])) {ct tr ix:Int} (v:Int) (hc:ct < 0 \/ ub S ix) {c0:List Int} (h0:TE2 S 0 ⟨c0,[],0⟩):∀ t,t <= n -> TE2 S (t:Int) ⟨WC S J xss (fC ct tr ix v) c0 t,[],0⟩ /\ (t < n -> LC S J xss (fC ct tr ix v) c0 t <= 649 /\ yK (gu S (J t) (xss.getD t [])) (fC ct tr ix v t) (LC S J xss (fC ct tr ix v) c0 t+1) 0 ⟨WC S J xss (fC ct tr ix v) c0 t,[],0⟩):=by
 have key:∀ t,t < n -> TE2 S (t:Int) ⟨WC S J xss (fC ct tr ix v) c0 t,[],0⟩ -> (LC S J xss (fC ct tr ix v) c0 t <= 649 /\ yK (gu S (J t) (xss.getD t [])) (fC ct tr ix v t) (LC S J xss (fC ct tr ix v) c0 t+1) 0 ⟨WC S J xss (fC ct tr ix v) c0 t,[],0⟩) /\ TE2 S ((t+1:Nat):Int) ⟨WC S J xss (fC ct tr ix v) c0 (t+1),[],0⟩:=λ t ht hT=>by
  have hrow:=hr t ht
  obtain ⟨h1,h2,h3⟩:=hT.tv hS (by omega) (λ q=>(gu S (J t) (xss.getD t [])).ins.getD ((gu S (J t) (xss.getD t [])).io+q) dI)
  have hb:=qK hS
  obtain ⟨m,a1,a2,a3,a4,a5⟩:=JE hS (g:=gu S (J t) (xss.getD t [])) rfl (λ _ _=>rfl) (by show S.players <= ((xss.getD t []).length:Int);have:=hrow.1;omega) (λ k M h=>MU hS v hc t k M h) (l0 S.players S.nb S.rounds 0).toNat 0 _ h1 (by omega)
  have e:LC S J xss (fC ct tr ix v) c0 t=m:=F5 m 1000 0 _ a2 (by omega)
  refine ⟨⟨by omega,by rw [e];exact a2⟩,?_⟩
  have ew:WC S J xss (fC ct tr ix v) c0 (t+1)=(mz (gu S (J t) (xss.getD t [])) (fC ct tr ix v t) (m+1) 0 ⟨WC S J xss (fC ct tr ix v) c0 t,[],0⟩).cs:=by rw [WC,show Lh (gu S (J t) (xss.getD t [])) (fC ct tr ix v t) 1000 0 ⟨WC S J xss (fC ct tr ix v) c0 t,[],0⟩=m from e]
  rw [hT.t0] at a5
  refine ⟨by rw [ew];exact a4,λ j h1 h2=>?_,?_⟩
  ·rw [ew];exact a3 j h1 h2
  ·rw [ew,show (⟨(mz (gu S (J t) (xss.getD t [])) (fC ct tr ix v t) (m+1) 0 ⟨WC S J xss (fC ct tr ix v) c0 t,[],0⟩).cs,[],0⟩:MemS).get 0=(mz (gu S (J t) (xss.getD t [])) (fC ct tr ix v t) (m+1) 0 ⟨WC S J xss (fC ct tr ix v) c0 t,[],0⟩).get 0 from rfl,a5]
   omega
 have hT:∀ t,t <= n -> TE2 S (t:Int) ⟨WC S J xss (fC ct tr ix v) c0 t,[],0⟩:=λ t=>by
  induction t with
  | zero=>exact λ _=>h0
  | succ t ih=>exact λ h=>(key t (by omega) (ih (by omega))).2
 exact λ t ht=>⟨hT t ht,λ h=>(key t h (hT t ht)).1⟩
theorem F6 {g g':Gm} (h:GEq g g') (f:Nat -> MemS -> MemS):∀ (n k:Nat) (M:MemS),mz g f n k M=mz g' f n k M
 | 0,_,_=>rfl
 | n+1,k,M=>by rw [mz,mz,fJ,fJ,nC h,F6 h f n]
theorem F7 {g g':Gm} (h:GEq g g') (f:Nat -> MemS -> MemS):∀ (n k:Nat) (M:MemS),yK g f n k M ↔ yK g' f n k M
 | 0,_,_=>Iff.rfl
 | n+1,k,M=>by rw [yK,yK,fJ,fJ,nC h,xA h,F7 h f n]
def XW (S:Setup) (J:Nat -> Nat × Int) (xss:List (List Inp)) (ct tr ix v:Int):Nat -> List Int:=WC S.std J xss (fC ct tr ix v) (aX S S.nb)
def XN (S:Setup) (J:Nat -> Nat × Int) (xss:List (List Inp)) (ct tr ix v:Int):Nat -> Nat:=LC S.std J xss (fC ct tr ix v) (aX S S.nb)
structure XTk (S:Setup) (g:Gm) (t:Nat) (ct tr ix v:Int) (W:Nat -> List Int) (L:Nat -> Nat):Prop where
 le:L t <= 649
 gd:yK g (fC ct tr ix v t) (L t+1) 0 ⟨W t,[],0⟩
 next:(mz g (fC ct tr ix v t) (L t+1) 0 ⟨W t,[],0⟩).cs=W (t+1)
 len:((W t).length:Int)=sizeOf S /\ ((W (t+1)).length:Int)=sizeOf S
 te:TE2 S (t:Int) ⟨W t,[],0⟩
theorem F8 {S:Setup} (hV:SetV S) {J:Nat -> Nat × Int} {xss:List (List Inp)} {n:Nat} (hn:n <= 900) (hr:∀ i,i < n -> gL S.players (xss.getD i [])) {ct tr ix:Int} (v:Int) (hc:ct < 0 \/ ub S ix) {S3:Setup} (h3:SetEq S S3) {t:Nat} (ht:t < n):XTk S (gu S3 (J t) (xss.getD t [])) t ct tr ix v (XW S J xss ct tr ix v) (XN S J xss ct tr ix v):=by
 have hS:=(mv S).setV hV
 have hw:=JF hS hn (J:=J) (xss:=xss) hr (tr:=tr) v (show ct < 0 \/ ub S.std ix from hc) (yF hV (mv S))
 obtain ⟨h1,h2⟩:=hw t (by omega)
 obtain ⟨h4,h5⟩:=h2 ht
 have eg:=FT (mv S) h3 J xss t
 refine ⟨h4,(F7 eg _ _ _ _).1 h5,?_,⟨h1.len,(hw (t+1) (by omega)).1.len⟩,⟨h1.len,h1.z,h1.t0⟩⟩
 rw [<- F6 eg]
 rfl
theorem Li {S:Setup} (hV:SetV S) {J:Nat -> Nat × Int} {xss:List (List Inp)} {n:Nat} (hn:n <= 900) (hr:∀ i,i < n -> gL S.players (xss.getD i [])) {ct tr ix:Int} (v:Int) (hc:ct < 0 \/ ub S ix) {t:Nat} (ht:t <= n):((XW S J xss ct tr ix v t).length:Int)=sizeOf S :=
 ((JF ((mv S).setV hV) hn (J:=J) (xss:=xss) hr (tr:=tr) v (show ct < 0 \/ ub S.std ix from hc) (yF hV (mv S))) t ht).1.len
section
variable {rs:List Bx} {ds:List Dr} {bp gb mb:Nat} {S:Setup} {M:MemS} {k:Nat} {G0:HL}
end
section
variable {r:Option Nat} {P:Program} {N:Nat} {D:List Deferred} {F:HL} {w0:World} {R:HL} {s:Cfg} {Q:Exit -> Act -> World -> Prop}
def N5 (K:Act -> World -> Prop) (s:Cfg):Cfg:=match s with
 | ⟨.code c,k,L,A,Ts⟩=>⟨.code c,.met K :: k,L,A,Ts⟩
 | s=>s
def F9 (s:Cfg):Bool:=match s.c with
 | .code _=>true
 | _=>false
def N6 (V:Inv) (s:Cfg):Cfg:=⟨.ex .normal,s.k,V.L,V.A,V.Ts⟩
theorem uc {σ:Type} (V:σ -> Inv)
  (first:(∀ {s':Cfg} {R':HL} (x':σ) (ip jp:List Nat),(V x').I -> (hm:AK s'=some (MV N D F w0 V (λ x'=>(V x').I)):=by kernel_rfl) -> (h:ta (V x') ip jp s'=mI (V x'):=by kernel_rfl) -> (hp:bS ip jp s'=true:=by kernel_rfl) -> RN r P N D F w0 R' s' Q) ->
   RN r P N D F w0 R (N5 (MV N D F w0 V (λ x'=>(V x').I)) s) Q)
  (rest:∀ x,(V x).I -> RN r P N D F w0 R (N6 (V x) s) Q) (hc:F9 s=true:=by kernel_rfl):RN r P N D F w0 R s Q:=by
 refine ⟨λ hR a w h1 h2 h3=>?_⟩
 have h4:=(first (λ x' ip jp hi hm h hp=>o8 x' ip jp hi hm h hp)).h hR
 obtain ⟨c,k,L,A,Ts⟩:=s
 unfold F9 at hc
 split at hc
 case h_2=>cases hc
 rename_i c' e1
 simp only at e1
 subst e1
 refine wpIn_mono (h4 a w h1 h2 h3) λ e a w q=>?_
 cases e with
 | normal =>
  obtain ⟨x,hI,m1,m2,m3⟩:=q
  exact (rest x hI).h hR a w m1 m2 m3
 | exit id=>exact q
 | goto l=>exact q
 | ret=>exact q
 | panic ch=>exact q
 | outgrown=>exact q
end
end Go.Proofs.YtghjbimijeinfaaGreatDoor
