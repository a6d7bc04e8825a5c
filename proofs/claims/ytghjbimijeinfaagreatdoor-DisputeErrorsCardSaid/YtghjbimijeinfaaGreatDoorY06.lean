import Derived.Test.YtghjbimijeinfaaGreatDoorY05
import Derived.Test.YtghjbimijeinfaaGreatDoorProg
import Derived.Shelf.Small.Bits
import Derived.Shelf.Strconv.Itoa0
set_option maxHeartbeats 4000000
set_option maxRecDepth 100000
set_option linter.unusedSimpArgs false
set_option linter.unusedVariables false
namespace Go.Proofs.YtghjbimijeinfaaGreatDoor
open Go.RowKit
abbrev aY (n:Int):Int:=IntKind.i64.wrap n
structure V2 where (x y:Int)
structure Bx where (x0 y0 x1 y1:Int)
structure Mot where (px py vx vy inv:Int)
structure Con where (nx ny d:Int)
def aF (n lo hi:Int):Int:=if n < lo then lo else if n > hi then hi else n
def kB (a b:Int):Int:=if b=0 then 0 else if (a.tmod b > 0 /\ b < 0) \/ (a.tmod b < 0 /\ b > 0) then aY (aY (a.tdiv b) - 1) else aY (a.tdiv b)
def fQ (a b:Int):Int:=kB (aY (a * b)) 1024
def av (a b c:Int):Int:=kB (aY (a * b)) c
theorem cz (n:Int) (lo:Int) (hi:Int)  (F:HL):Sp Tryz.prog 92 #[vI n,vI lo,vI hi] [] F (λ u H'=>u=vI (aF n lo hi) /\ H'=[]):=by
 refine Sp.run Tryz.func92 rfl mn (A:=[]) (Ts:=[]) rfl λ w0=>?_
 refine ae 15 [] λ _=>RN.em (n < lo) 7 (λ h1=>?_) λ h1=>?_
 ·refine ae 7 [] λ _=>RN.ret [] [] [] (v:=vI lo) (H':=[]) ?_
  exact ⟨by unfold aF;simp [*],rfl⟩
 ·refine ae 9 [] λ _=>RN.em (n > hi) 12 (λ h2=>?_) λ h2=>?_
  ·refine ae 7 [] λ _=>RN.ret [] [] [] (v:=vI hi) (H':=[]) ?_
   exact ⟨by unfold aF;simp [*],rfl⟩
  ·refine ae 10 [] λ _=>RN.ret [] [] [] (v:=vI n) (H':=[]) ?_
   exact ⟨by unfold aF;simp [*],rfl⟩
theorem mP (a:Int) (b:Int)  (F:HL):Sp Tryz.prog 202 #[vI a,vI b] [] F (λ u H'=>u=vI (kB a b) /\ H'=[]):=by
 refine Sp.run Tryz.func202 rfl mn (A:=[]) (Ts:=[]) rfl λ w0=>?_
 refine ae 12 [] λ _=>RN.em (b=0) 8 (λ h1=>?_) λ h1=>?_
 ·refine ae 6 [] λ _=>RN.ret [] [] [] (v:=vI 0) (H':=[]) ?_
  exact ⟨by unfold kB;simp [*],rfl⟩
 ·refine ae 4 [] λ _=>RN.draw [] []<|aJ [] [0,1,3,4,2,5,6,7] [.dv,.dv] [b ≠ 0,b ≠ 0]<|RD.fin<|ae 13 [] λ _=>RN.em (a.tmod b > 0) 18 (λ h2=>?_) λ h2=>?_
  ·refine ae 6 [] λ _=>RN.em (b < 0) 15 (λ h3=>?_) λ h3=>?_
   ·refine ae 23 [] λ _=>RN.ret [] [] [] (v:=vI (IntKind.i64.wrap ((IntKind.i64.wrap (a.tdiv b)) - 1))) (H':=[]) ?_
    exact ⟨by unfold kB;simp [*],rfl⟩
   ·refine ae 8 [] λ _=>RN.em (a.tmod b < 0) 25 (λ h4=>?_) λ h4=>?_
    ·refine ae 6 [] λ _=>RN.em (b > 0) 22 (λ h5=>?_) λ h5=>?_
     ·refine ae 22 [] λ _=>RN.ret [] [] [] (v:=vI (IntKind.i64.wrap ((IntKind.i64.wrap (a.tdiv b)) - 1))) (H':=[]) ?_
      exact ⟨by unfold kB;simp [*],rfl⟩
     ·refine ae 15 [] λ _=>RN.ret [] [] [] (v:=vI (IntKind.i64.wrap (a.tdiv b))) (H':=[]) ?_
      exact ⟨by unfold kB;simp [*],rfl⟩
    ·refine ae 21 [] λ _=>RN.ret [] [] [] (v:=vI (IntKind.i64.wrap (a.tdiv b))) (H':=[]) ?_
     exact ⟨by unfold kB;simp [*],rfl⟩
  ·refine ae 14 [] λ _=>RN.em (a.tmod b < 0) 25 (λ h6=>?_) λ h6=>?_
   ·refine ae 6 [] λ _=>RN.em (b > 0) 22 (λ h7=>?_) λ h7=>?_
    ·refine ae 22 [] λ _=>RN.ret [] [] [] (v:=vI (IntKind.i64.wrap ((IntKind.i64.wrap (a.tdiv b)) - 1))) (H':=[]) ?_
     exact ⟨by unfold kB;simp [*],rfl⟩
    ·refine ae 15 [] λ _=>RN.ret [] [] [] (v:=vI (IntKind.i64.wrap (a.tdiv b))) (H':=[]) ?_
     exact ⟨by unfold kB;simp [*],rfl⟩
   ·refine ae 21 [] λ _=>RN.ret [] [] [] (v:=vI (IntKind.i64.wrap (a.tdiv b))) (H':=[]) ?_
    exact ⟨by unfold kB;simp [*],rfl⟩
theorem mQ (a:Int) (b:Int)  (F:HL):Sp Tryz.prog 154 #[vI a,vI b] [] F (λ u H'=>u=vI (fQ a b) /\ H'=[]):=by
 refine Sp.run Tryz.func154 rfl mn (A:=[]) (Ts:=[]) rfl λ w0=>?_
 refine ae 10 [] λ _=>aj (mP (IntKind.i64.wrap (a * b)) 1024  _)<|ae 3 [] λ _=>?_
 exact RN.ret [] [] [] ⟨rfl,rfl⟩
theorem fW (a:Int) (b:Int) (c:Int)  (F:HL):Sp Tryz.prog 211 #[vI a,vI b,vI c] [] F (λ u H'=>u=vI (av a b c) /\ H'=[]):=by
 refine Sp.run Tryz.func211 rfl mn (A:=[]) (Ts:=[]) rfl λ w0=>?_
 refine ae 11 [] λ _=>aj (mP (IntKind.i64.wrap (a * b)) c  _)<|ae 3 [] λ _=>?_
 exact RN.ret [] [] [] ⟨rfl,rfl⟩
end Go.Proofs.YtghjbimijeinfaaGreatDoor
namespace Go.Proofs
open Go.Shelf
def nB:Go.Shelf.Ren:=⟨λ | 125=>84 | 128=>147 | 129=>148 | n=>n,λ | 46=>191 | 3=>3 | 51=>271 | 53=>77 | 4=>4 | 5=>5 | 9=>9 | n=>n,λ | n=>n⟩
theorem tG:Go.Proofs.Lays.n125 Tryz.prog nB:={
 mixed:=by kernel_rfl
 f125:=Tryz.func84.trans (congrArg some (by kernel_rfl))
 f128:=Tryz.func147.trans (congrArg some (by kernel_rfl))
 f129:=Tryz.func148.trans (congrArg some (by kernel_rfl))
 t3:=Tryz.underlying3
 a3:=Tryz.isAgg3
 z3:=Tryz.sizeOf3
 v3:=Tryz.zeroValue3
 t4:=Tryz.underlying4
 a4:=Tryz.isAgg4
 z4:=Tryz.sizeOf4
 v4:=Tryz.zeroValue4
 t5:=Tryz.underlying5
 a5:=Tryz.isAgg5
 z5:=Tryz.sizeOf5
 v5:=Tryz.zeroValue5
 t9:=Tryz.underlying9
 a9:=Tryz.isAgg9
 z9:=Tryz.sizeOf9
 v9:=Tryz.zeroValue9
 t46:=Tryz.underlying191
 a46:=Tryz.isAgg191
 z46:=Tryz.sizeOf191
 v46:=Tryz.zeroValue191
 t51:=Tryz.underlying271
 a51:=Tryz.isAgg271
 z51:=Tryz.sizeOf271
 v51:=Tryz.zeroValue271
 t53:=Tryz.underlying77
 a53:=Tryz.isAgg77
 z53:=Tryz.sizeOf77
 v53:=Tryz.zeroValue77 }
theorem Tryz.bits_Len (x:Int) (w:World) (h0:0 <= x) (h1:x <= 18446744073709551615) :
 Calls Tryz.prog 84 #[.int .u64 x] w λ e w'=>e=.returned (.int .i64 (Lib.bitLen x.toNat)) /\ w'=w:=Any.bits_Len tG x w h0 h1
end Go.Proofs
namespace Go.Proofs.YtghjbimijeinfaaGreatDoor
open Go.RowKit
abbrev uN (n:Int):Int:=IntKind.u64.wrap n
theorem tH (n:Int):0 <= uN n /\ uN n <= 18446744073709551615:=by
 show 0 <= IntKind.u64.wrap n /\ IntKind.u64.wrap n <= _
 unfold IntKind.wrap
 simp [IntKind.signed,IntKind.bits]
 omega
abbrev tI (n:Int):Int:=(Lib.bitLen (uN n).toNat:Int)
theorem uO (n:Int) (F:HL):Sp Tryz.prog 84 #[.int .u64 (uN n)] [] F (λ u H'=>u=vI (tI n) /\ H'=[]) :=
 uG (λ w=>Tryz.bits_Len _ w (tH n).1 (tH n).2) F
theorem G6 (n:Int):0 <= tI n /\ tI n <= 64:=by
 have h:=tH n
 have:=Lib.bitLen_le (uN n).toNat 64 (by omega) (by omega)
 unfold tI
 omega
def G8 (r:Int) (k:Nat):Int:=aY ((BitVec.ofInt 64 r ||| BitVec.ofInt 64 (aY (1 * 2 ^ min k 64))).toNat:Int)
def tJ (n:Int):Nat -> Int -> Int
 | 0,r=>r
 | k+1,r=>tJ n k (if G8 r k > aY (n.tdiv (G8 r k)) then r else G8 r k)
def Bb (n:Int):Int:=aY (aY ((aY (tI n+1)).tdiv 2) - 1)
def tK (n:Int):Int:=if n <= 0 then 0 else tJ n (Bb n+1).toNat 0
theorem NE (v:BitVec 64) (h:aY (v.toNat:Int)=0):v=0#64:=by
 apply BitVec.eq_of_toNat_eq
 have h2:v.toNat < 18446744073709551616:=v.isLt
 generalize v.toNat=m at *
 rw [aY,IntKind.wrap_i64] at h
 simp
 omega
theorem J5 (r:Int) {k:Nat} (hk:k < 40):G8 r k ≠ 0:=by
 intro h
 have hb:BitVec.ofInt 64 (aY (1 * 2 ^ min k 64)) ≠ 0#64:=by
  have:∀ k < 40,BitVec.ofInt 64 (aY (1 * 2 ^ min k 64)) ≠ 0#64:=by decide
  exact this k hk
 have h1:=NE _ h
 clear h
 generalize BitVec.ofInt 64 (aY (1 * 2 ^ min k 64))=b at *
 generalize BitVec.ofInt 64 r=a at *
 apply hb
 have:(a ||| b) &&& b=b:=by
  apply BitVec.eq_of_getLsbD_eq
  intro i hi
  simp
  intro h
  exact .inr h
 rw [h1] at this
 simpa using this.symm
theorem zy (n:Int):-1 <= Bb n /\ Bb n <= 31:=by
 have:=G6 n
 unfold Bb aY
 generalize tI n=l at *
 have e1:IntKind.i64.wrap (l+1)=l+1:=by rw [IntKind.wrap_i64];omega
 rw [e1,Int.tdiv_eq_ediv_of_nonneg (by omega)]
 have e2:IntKind.i64.wrap ((l+1) / 2)=(l+1) / 2:=by rw [IntKind.wrap_i64];omega
 rw [e2,IntKind.wrap_i64]
 omega
theorem cT {x:Int} (h:-9223372036854775808 <= x /\ x <= 9223372036854775807):aY x=x:=by
 rw [aY,IntKind.wrap_i64];omega
theorem uP {n r s:Int} {k:Int} (h0:¬ s < 0) (h:tJ n (s+1).toNat r=k):tJ n s.toNat (if G8 r s.toNat > aY (n.tdiv (G8 r s.toNat)) then r else G8 r s.toNat)=k:=by
 have e:(s+1).toNat=s.toNat+1:=by omega
 rw [e,tJ] at h
 exact h
theorem Bc (n:Int)  (F:HL):Sp Tryz.prog 315 #[vI n] [] F (λ u H'=>u=vI (tK n) /\ H'=[]):=by
 refine Sp.run Tryz.func315 rfl mn (A:=[]) (Ts:=[]) rfl λ w0=>?_
 refine ae 13 [] λ _=>RN.em (n <= 0) 7 (λ h1=>?_) λ h1=>?_
 ·refine ae 6 [] λ _=>RN.ret [] [] [] (v:=vI 0) (H':=[]) ?_
  refine ⟨?_,rfl⟩
  unfold tK
  first | (simp [*];done) | (have e:(s+1).toNat=0:=by omega);(rw [e,tJ] at hI2);(simp [*])
 ·refine ae 16 [] λ _=>aj (uO n _)<|ae 7 [] λ _=>RN.loop (σ:=Int × Int) (λ ⟨r,s⟩=>⟨[(0,vI n),(3,vI r),(4,vI s)],[],[],-1 <= s /\ s <= 31 /\ tJ n (s+1).toNat r=tJ n (Bb n+1).toNat 0,(s+1).toNat⟩) (0,Bb n) [] [] (⟨(zy n).1,(zy n).2,rfl⟩) ?_
  rintro ⟨r,s⟩ ⟨hI0,hI1,hI2⟩ mt3
  have hw:s >= 0 -> IntKind.i64.wrap (s - 1)=s - 1:=λ _=>cT (by omega)
  have hsub:(s - 1+1).toNat=s.toNat:=by rw [Int.sub_add_cancel]
  refine ae 7 [] λ _=>RN.em (s >= 0) 15 (λ h4=>?_) λ h4=>?_
  ·refine pM 24 [.dv,.gen,.dv] (λ _=>[IntKind.i64.wrap ((BitVec.ofInt 64 r ||| BitVec.ofInt 64 (IntKind.i64.wrap (1 * 2 ^ min (s).toNat 64))).toNat:Int) ≠ 0,0 <= s]) (λ _=>(ac (J5 r (by omega)) (ac (by omega) an))) λ _=>RN.em (IntKind.i64.wrap ((BitVec.ofInt 64 r ||| BitVec.ofInt 64 (IntKind.i64.wrap (1 * 2 ^ min (s).toNat 64))).toNat:Int) > IntKind.i64.wrap (n.tdiv (IntKind.i64.wrap ((BitVec.ofInt 64 r ||| BitVec.ofInt 64 (IntKind.i64.wrap (1 * 2 ^ min (s).toNat 64))).toNat:Int)))) 26 (λ h5=>?_) λ h5=>?_
   ·refine ae 10 [] λ _=>?_
    refine mt3 (r,IntKind.i64.wrap (s - 1)) [] [] ?_
    try dsimp only
    have hN:=uP (by omega) hI2
    rw [hw (by assumption),hsub]
    refine ⟨⟨by omega,by omega,?_⟩,by omega⟩
    simpa only [G8, *,if_true,if_false] using hN
   ·refine ae 14 [] λ _=>?_
    refine mt3 (IntKind.i64.wrap ((BitVec.ofInt 64 r ||| BitVec.ofInt 64 (IntKind.i64.wrap (1 * 2 ^ min (s).toNat 64))).toNat:Int),IntKind.i64.wrap (s - 1)) [] [] ?_
    try dsimp only
    have hN:=uP (by omega) hI2
    rw [hw (by assumption),hsub]
    refine ⟨⟨by omega,by omega,?_⟩,by omega⟩
    simpa only [G8, *,if_true,if_false] using hN
  ·refine ae 12 [] λ _=>RN.ret [] [] [] (v:=vI r) (H':=[]) ?_
   refine ⟨?_,rfl⟩
   unfold tK
   first | (simp [*];done) | (have e:(s+1).toNat=0:=by omega);(rw [e,tJ] at hI2);(simp [*])
def aC (a b:V2):V2:=⟨aY (a.x+b.x),aY (a.y+b.y)⟩
def di (a b:V2):V2:=⟨aY (a.x - b.x),aY (a.y - b.y)⟩
def Bd (a:V2):V2:=di ⟨0,0⟩ a
def ao (a:V2) (f:Int):V2:=⟨fQ a.x f,fQ a.y f⟩
def ep (a:V2) (n d:Int):V2:=⟨av a.x n d,av a.y n d⟩
def C9 (n:Int):Int:=n.fdiv 1024
def cW (a b:V2):Int:=C9 (aY (aY (a.x * b.x)+aY (a.y * b.y)))
def Da (a:V2):Int:=tK (aY (aY (a.x * a.x)+aY (a.y * a.y)))
def r7 (a:V2):Prop:=a.x=0 /\ a.y=0
instance (a:V2):Decidable (r7 a):=inferInstanceAs (Decidable (_ /\ _))
def j8 (a:V2):V2:=if r7 a then a else ep a 1024 (Da a)
theorem uQ (m n:Int) (F:HL):Sp Tryz.prog 152 #[vI m,vI n] [] F (λ u H'=>u=vI (aY (m+n)) /\ H'=[]):=by
 refine Sp.run Tryz.func152 rfl mn (A:=[]) (Ts:=[]) rfl λ w0=>?_
 refine ae 13 [] λ _=>?_
 exact RN.ret [] [] [] ⟨rfl,rfl⟩
theorem uR (m n:Int) (F:HL):Sp Tryz.prog 260 #[vI m,vI n] [] F (λ u H'=>u=vI (aY (m - n)) /\ H'=[]):=by
 refine Sp.run Tryz.func260 rfl mn (A:=[]) (Ts:=[]) rfl λ w0=>?_
 refine ae 13 [] λ _=>?_
 exact RN.ret [] [] [] ⟨rfl,rfl⟩
theorem oC (m n d:Int) (b:Nat) (F:HL) (hb:(b,.lit [vI d] 3 (0,0)) ∈ F):Sp Tryz.prog 219 #[vI m,vI n,vP b 0] [] F (λ u H'=>u=vI (av m n d) /\ H'=[]):=by
 refine Sp.run Tryz.func219 rfl (mc hb mn) (A:=[]) (Ts:=[]) rfl λ w0=>?_
 refine ae 10 [.ro 0] λ _=>aj (fW m n d  _)<|ae 3 [] λ _=>?_
 exact RN.ret [] [] [] ⟨rfl,rfl⟩
theorem Db (a b:V2)  (F:HL):Sp Tryz.prog 151 #[.agg #[vI a.x,vI a.y],.agg #[vI b.x,vI b.y],.func (.func 152) #[] #[]] [] F (λ u H'=>u=.agg #[vI ((aC a b).x),vI ((aC a b).y)] /\ H'=[]):=by
 refine Sp.run Tryz.func151 rfl mn (A:=[]) (Ts:=[]) rfl λ w0=>?_
 refine ae 8 [] λ n1=>RN.draw [13] []<|ag [] [0,1,3,6,7,9,2,4,8,10] [.own 2,.own 1,.own 2,.own 1]<|ar [] 5 (λ X_=>(uQ a.x b.x _))<|ar [] 11 (λ X_=>(uQ a.y b.y _))<|ag [] [12] []<|RD.one 13 (RDO.ev [] [.own 0,.own 0] λ _=>?_)
 refine RD.fin<|ae 1 [] λ _=>?_
 exact RN.ret [.own 0,.own 0] [] [] ⟨rfl,rfl⟩
theorem Dc (a b:V2)  (F:HL):Sp Tryz.prog 151 #[.agg #[vI a.x,vI a.y],.agg #[vI b.x,vI b.y],.func (.func 260) #[] #[]] [] F (λ u H'=>u=.agg #[vI ((di a b).x),vI ((di a b).y)] /\ H'=[]):=by
 refine Sp.run Tryz.func151 rfl mn (A:=[]) (Ts:=[]) rfl λ w0=>?_
 refine ae 8 [] λ n1=>RN.draw [13] []<|ag [] [0,1,3,6,7,9,2,4,8,10] [.own 2,.own 1,.own 2,.own 1]<|ar [] 5 (λ X_=>(uR a.x b.x _))<|ar [] 11 (λ X_=>(uR a.y b.y _))<|ag [] [12] []<|RD.one 13 (RDO.ev [] [.own 0,.own 0] λ _=>?_)
 refine RD.fin<|ae 1 [] λ _=>?_
 exact RN.ret [.own 0,.own 0] [] [] ⟨rfl,rfl⟩
theorem Dd (a b:V2)  (F:HL):Sp Tryz.prog 151 #[.agg #[vI a.x,vI a.y],.agg #[vI b.x,vI b.y],.func (.func 154) #[] #[]] [] F (λ u H'=>u=.agg #[vI ((⟨fQ a.x b.x,fQ a.y b.y⟩:V2).x),vI ((⟨fQ a.x b.x,fQ a.y b.y⟩:V2).y)] /\ H'=[]):=by
 refine Sp.run Tryz.func151 rfl mn (A:=[]) (Ts:=[]) rfl λ w0=>?_
 refine ae 8 [] λ n1=>RN.draw [13] []<|ag [] [0,1,3,6,7,9,2,4,8,10] [.own 2,.own 1,.own 2,.own 1]<|ar [] 5 (λ X_=>(mQ a.x b.x  _))<|ar [] 11 (λ X_=>(mQ a.y b.y  _))<|ag [] [12] []<|RD.one 13 (RDO.ev [] [.own 0,.own 0] λ _=>?_)
 refine RD.fin<|ae 1 [] λ _=>?_
 exact RN.ret [.own 0,.own 0] [] [] ⟨rfl,rfl⟩
theorem uS (a b:V2) (d:Int) (q:Nat) (F:HL) (hq:(q,.lit [vI d] 3 (0,0)) ∈ F):Sp Tryz.prog 151 #[.agg #[vI a.x,vI a.y],.agg #[vI b.x,vI b.y],.func (.func 219) #[] #[vP q 0]] [] F (λ u H'=>u=.agg #[vI ((⟨av a.x b.x d,av a.y b.y d⟩:V2).x),vI ((⟨av a.x b.x d,av a.y b.y d⟩:V2).y)] /\ H'=[]):=by
 refine Sp.run Tryz.func151 rfl (mc hq mn) (A:=[]) (Ts:=[]) rfl λ w0=>?_
 refine ae 8 [] λ n1=>RN.draw [13] []<|ag [] [0,1,3,6,7,9,2,4,8,10] [.own 2,.own 1,.own 2,.own 1]<|ar [] 5 (λ X_=>(oC a.x b.x d q _ (xz hq)))<|ar [] 11 (λ X_=>(oC a.y b.y d q _ (xz hq)))<|ag [] [12] []<|RD.one 13 (RDO.ev [] [.own 0,.own 0] λ _=>?_)
 refine RD.fin<|ae 1 [] λ _=>?_
 exact RN.ret [.own 0,.own 0] [] [] ⟨rfl,rfl⟩
theorem oD (n:Int) (F:HL):Sp Tryz.prog 153 #[vI n] [] F (λ u H'=>u=.agg #[vI n,vI n] /\ H'=[]):=by
 refine Sp.run Tryz.func153 rfl mn (A:=[]) (Ts:=[]) rfl λ w0=>?_
 refine ae 13 [.own 0,.own 0] λ n1=>?_
 exact RN.ret [.own 0,.own 0] [] [] ⟨rfl,rfl⟩
theorem dT (a:V2) (b:V2)  (F:HL):Sp Tryz.prog 90 #[.agg #[vI a.x,vI a.y],.agg #[vI b.x,vI b.y]] [] F (λ u H'=>u=.agg #[vI ((aC a b).x),vI ((aC a b).y)] /\ H'=[]):=by
 refine Sp.run Tryz.func90 rfl mn (A:=[]) (Ts:=[]) rfl λ w0=>?_
 refine ae 11 [.own 2,.own 2,.own 1,.own 1] λ n1=>aj (Db a b _)<|ae 3 [.own 0,.own 0] λ _=>?_
 exact RN.ret [.own 0,.own 0] [] [] ⟨rfl,rfl⟩
theorem im (a:V2) (b:V2)  (F:HL):Sp Tryz.prog 208 #[.agg #[vI a.x,vI a.y],.agg #[vI b.x,vI b.y]] [] F (λ u H'=>u=.agg #[vI ((di a b).x),vI ((di a b).y)] /\ H'=[]):=by
 refine Sp.run Tryz.func208 rfl mn (A:=[]) (Ts:=[]) rfl λ w0=>?_
 refine ae 11 [.own 2,.own 2,.own 1,.own 1] λ n1=>aj (Dc a b _)<|ae 3 [.own 0,.own 0] λ _=>?_
 exact RN.ret [.own 0,.own 0] [] [] ⟨rfl,rfl⟩
theorem De (a:V2)  (F:HL):Sp Tryz.prog 209 #[.agg #[vI a.x,vI a.y]] [] F (λ u H'=>u=.agg #[vI ((Bd a).x),vI ((Bd a).y)] /\ H'=[]):=by
 refine Sp.run Tryz.func209 rfl mn (A:=[]) (Ts:=[]) rfl λ w0=>?_
 refine ae 10 [.own 1,.own 1] λ n1=>aj (im (⟨0,0⟩:V2) a  _)<|ae 3 [.own 0,.own 0] λ _=>?_
 exact RN.ret [.own 0,.own 0] [] [] ⟨rfl,rfl⟩
theorem eH (a:V2) (f:Int)  (F:HL):Sp Tryz.prog 91 #[.agg #[vI a.x,vI a.y],vI f] [] F (λ u H'=>u=.agg #[vI ((ao a f).x),vI ((ao a f).y)] /\ H'=[]):=by
 refine Sp.run Tryz.func91 rfl mn (A:=[]) (Ts:=[]) rfl λ w0=>?_
 refine ae 7 [] λ n1=>RN.draw [4] []<|ag [] [0,1] [.own 1,.own 1]<|ar [] 2 (λ X_=>(oD f _))<|ar [] 3 (λ X_=>(Dd a (⟨f,f⟩:V2) _))<|RD.one 4 (RDO.ev [] [.own 0,.own 0] λ _=>?_)
 refine RD.fin<|ae 1 [] λ _=>?_
 exact RN.ret [.own 0,.own 0] [] [] ⟨rfl,rfl⟩
theorem kC (a:V2) (n:Int) (d:Int)  (F:HL):Sp Tryz.prog 159 #[.agg #[vI a.x,vI a.y],vI n,vI d] [] F (λ u H'=>u=.agg #[vI ((ep a n d).x),vI ((ep a n d).y)] /\ H'=[]):=by
 refine Sp.run Tryz.func159 rfl mn (A:=[]) (Ts:=[]) rfl λ w0=>?_
 refine ae 8 [] λ n1=>RN.draw [5] []<|ag [] [0,1,3] [.own 2,.own 2]<|ar [] 2 (λ X_=>(oD n _))<|ar [] 4 (λ X_=>(uS a (⟨n,n⟩:V2) d (n1+1) _ (kz 1)))<|RD.one 5 (RDO.ev [] [.own 0,.own 0] λ _=>?_)
 refine RD.fin<|ae 1 [] λ _=>?_
 exact RN.ret [.own 0,.own 0] [] [] ⟨rfl,rfl⟩
theorem Be (n:Int)  (F:HL):Sp Tryz.prog 259 #[vI n] [] F (λ u H'=>u=vI (C9 n) /\ H'=[]):=by
 refine Sp.run Tryz.func259 rfl mn (A:=[]) (Ts:=[]) rfl λ w0=>?_
 refine ae 12 [] λ _=>?_
 exact RN.ret [] [] [] ⟨rfl,rfl⟩
theorem mR (a:V2) (b:V2)  (F:HL):Sp Tryz.prog 207 #[.agg #[vI a.x,vI a.y],.agg #[vI b.x,vI b.y]] [] F (λ u H'=>u=vI (cW a b) /\ H'=[]):=by
 refine Sp.run Tryz.func207 rfl mn (A:=[]) (Ts:=[]) rfl λ w0=>?_
 refine ae 20 [.own 1,.own 0,.own 1,.own 0] λ n1=>aj (Be (IntKind.i64.wrap ((IntKind.i64.wrap (a.x * b.x))+(IntKind.i64.wrap (a.y * b.y))))  _)<|ae 3 [] λ _=>?_
 exact RN.ret [] [] [] ⟨rfl,rfl⟩
theorem Df (a:V2)  (F:HL):Sp Tryz.prog 312 #[.agg #[vI a.x,vI a.y]] [] F (λ u H'=>u=vI (Da a) /\ H'=[]):=by
 refine Sp.run Tryz.func312 rfl mn (A:=[]) (Ts:=[]) rfl λ w0=>?_
 refine ae 19 [.own 0,.own 0,.own 0,.own 0] λ n1=>aj (Bc (IntKind.i64.wrap ((IntKind.i64.wrap (a.x * a.x))+(IntKind.i64.wrap (a.y * a.y))))  _)<|ae 3 [] λ _=>?_
 exact RN.ret [] [] [] ⟨rfl,rfl⟩
theorem Bf (a:V2)  (F:HL):Sp Tryz.prog 303 #[.agg #[vI a.x,vI a.y]] [] F (λ u H'=>u=.agg #[vI ((j8 a).x),vI ((j8 a).y)] /\ H'=[]):=by
 refine Sp.run Tryz.func303 rfl mn (A:=[]) (Ts:=[]) rfl λ w0=>?_
 refine ae 14 [.own 1,.own 1,.sq] λ n1=>fT ((decide (a.x=0) && (decide (a.y=0) && true))) 5 (λ h2=>?_) λ h2=>?_
 ·refine ae 7 [.own 1,.own 1,.own 0,.own 0] λ _=>RN.ret [.own 0,.own 0] [] [] (v:=.agg #[vI a.x,vI a.y]) (H':=[]) ?_
  refine ⟨?_,rfl⟩
  unfold j8
  first | rw [if_pos (by simpa [r7] using h2)] | rw [if_neg (by simpa [r7] using h2)]
 ·refine ae 4 [] λ _=>RN.draw [4] []<|ag [] [0,1] [.own 1,.own 1,.own 1,.own 1]<|ar [] 2 (λ X_=>(Df a  _))<|ar [] 3 (λ X_=>(kC a 1024 (Da a)  _))<|RD.one 4 (RDO.ev [] [.own 0,.own 0] λ _=>?_)
  refine RD.fin<|ae 1 [] λ _=>RN.ret [.own 0,.own 0] [] [] (v:=.agg #[vI ((ep a 1024 (Da a)).x),vI ((ep a 1024 (Da a)).y)]) (H':=[]) ?_
  refine ⟨?_,rfl⟩
  unfold j8
  first | rw [if_pos (by simpa [r7] using h2)] | rw [if_neg (by simpa [r7] using h2)]
structure Shp where (r:Int) (poly:List V2) (A:Option Addr) (cap:Nat)
abbrev LI (s:Shp):Value:=.agg #[vI s.r,.slice s.A s.poly.length s.cap]
def jm (l:List V2):Nat -> Nat -> Value:=λ i k=>match k with | 0=>vI (l.getD i ⟨0,0⟩).x | _=>vI (l.getD i ⟨0,0⟩).y
inductive ShIn (F:HL):Shp -> Prop
 | circle (r:Int) (A:Option Addr) (cap:Nat):ShIn F ⟨r,[],A,cap⟩
 | poly (r:Int) (l:List V2) (b cap:Nat) (h:(b,.rows 2 cap (jm l) 29 (0,0)) ∈ F) (h3:3 <= l.length) (h4:l.length <= cap) (h5:l.length <= 1000000):ShIn F ⟨r,l,some ⟨b,0,none⟩,cap⟩
theorem ShIn.mono {F F':HL} {s:Shp} (h:ShIn F s) (hs:∀ x ∈ F,x ∈ F'):ShIn F' s:=by
 cases h with
 | circle r A cap=>exact .circle r A cap
 | poly r l b cap h h3 h4 h5=>exact .poly r l b cap (hs _ h) h3 h4 h5
def i9 (s:Shp):Prop:=s.poly=[]
instance (s:Shp):Decidable (i9 s):=decidable_of_iff (s.poly.isEmpty=true) (by simp [i9])
def L2 (b:Bx) (c:V2):Bx:=⟨if c.x < b.x0 then c.x else b.x0,if c.y < b.y0 then c.y else b.y0,if c.x > b.x1 then c.x else b.x1,if c.y > b.y1 then c.y else b.y1⟩
def lM (pos:V2) (l:List V2):Nat -> Bx
 | 0=>⟨(aC pos (l.getD 0 ⟨0,0⟩)).x,(aC pos (l.getD 0 ⟨0,0⟩)).y,(aC pos (l.getD 0 ⟨0,0⟩)).x,(aC pos (l.getD 0 ⟨0,0⟩)).y⟩
 | k+1=>L2 (lM pos l k) (aC pos (l.getD (1+k) ⟨0,0⟩))
def dY (s:Shp) (pos:V2):Bx:=if i9 s then ⟨aY (pos.x - s.r),aY (pos.y - s.r),aY (pos.x+s.r),aY (pos.y+s.r)⟩ else lM pos s.poly (s.poly.length - 1)
def oE (a b c d:Int):Prop:=a <= d /\ c <= b
instance (a b c d:Int):Decidable (oE a b c d):=inferInstanceAs (Decidable (_ /\ _))
def LJ (a b:Bx):Prop:=oE a.x0 a.x1 b.x0 b.x1 /\ oE a.y0 a.y1 b.y0 b.y1
instance (a b:Bx):Decidable (LJ a b):=inferInstanceAs (Decidable (_ /\ _))
theorem nC (r:Int) (A:Option Addr) (n cap:Nat) (F:HL):Sp Tryz.prog 190 #[.agg #[vI r,.slice A n cap]] [] F (λ u H'=>u=.bool (decide ((n:Int)=0)) /\ H'=[]):=by
 refine Sp.run Tryz.func190 rfl mn (A:=[]) (Ts:=[]) rfl λ w0=>?_
 refine ae 15 [.own 0] λ n1=>?_
 exact RN.ret [] [] [] ⟨rfl,rfl⟩
theorem iq (r:Int) (A:Option Addr) (n cap:Nat) (F:HL):Sp Tryz.prog 256 #[.agg #[vI r,.slice A n cap]] [] F (λ u H'=>u=.bool (decide ((n:Int)=0)) /\ H'=[]):=by
 refine Sp.run Tryz.func256 rfl mn (A:=[]) (Ts:=[]) rfl λ w0=>?_
 refine ae 15 [.own 0] λ n1=>?_
 exact RN.ret [] [] [] ⟨rfl,rfl⟩
theorem uT (a:Int) (b:Int) (c:Int) (d:Int)  (F:HL):Sp Tryz.prog 253 #[vI a,vI b,vI c,vI d] [] F (λ u H'=>u=.bool (decide (oE a b c d)) /\ H'=[]):=by
 refine Sp.run Tryz.func253 rfl mn (A:=[]) (Ts:=[]) rfl λ w0=>?_
 refine ae 11 [] λ _=>RN.em (a <= d) 12 (λ h1=>?_) λ h1=>?_
 ·refine ae 7 [] λ _=>RN.ret [] [] [] (v:=.bool (decide (c <= b))) (H':=[]) ?_
  exact ⟨by simp [oE, *],rfl⟩
 ·refine ae 7 [] λ _=>RN.ret [] [] [] (v:=.bool false) (H':=[]) ?_
  exact ⟨by simp [oE, *],rfl⟩
theorem Hb (a:Bx) (b:Bx)  (F:HL):Sp Tryz.prog 203 #[.agg #[vI a.x0,vI a.y0,vI a.x1,vI a.y1],.agg #[vI b.x0,vI b.y0,vI b.x1,vI b.y1]] [] F (λ u H'=>u=.bool (decide (LJ a b)) /\ H'=[]):=by
 refine Sp.run Tryz.func203 rfl mn (A:=[]) (Ts:=[]) rfl λ w0=>?_
 refine ae 17 [.own 1,.own 1,.own 0,.own 0] λ n1=>aj (uT a.x0 a.x1 b.x0 b.x1  _)<|ae 1 [] λ _=>RN.em (oE a.x0 a.x1 b.x0 b.x1) 14 (λ h2=>?_) λ h2=>?_
 ·refine ae 8 [.own 1,.own 1,.own 0,.own 0] λ _=>aj (uT a.y0 a.y1 b.y0 b.y1  _)<|ae 4 [] λ _=>RN.ret [] [] [] (v:=.bool (decide (oE a.y0 a.y1 b.y0 b.y1))) (H':=[]) ?_
  exact ⟨by simp [LJ, *],rfl⟩
 ·refine ae 13 [] λ _=>RN.ret [] [] [] (v:=.bool false) (H':=[]) ?_
  exact ⟨by simp [LJ, *],rfl⟩
theorem rv (r:Int) (A:Option Addr) (cap:Nat) (pos:V2) (F:HL):Sp Tryz.prog 204 #[.agg #[vI r,.slice A 0 cap],.agg #[vI pos.x,vI pos.y]] [] F (λ u H'=>u=.agg #[vI ((dY ⟨r,[],A,cap⟩ pos).x0),vI ((dY ⟨r,[],A,cap⟩ pos).y0),vI ((dY ⟨r,[],A,cap⟩ pos).x1),vI ((dY ⟨r,[],A,cap⟩ pos).y1)] /\ H'=[]):=by
 refine Sp.run Tryz.func204 rfl mn (A:=[]) (Ts:=[]) rfl λ w0=>?_
 refine ae 11 [.own 2,.own 2] λ n1=>aj (nC r A 0 cap _)<|ae 29 [.own 1,.own 2,.own 1,.own 2,.own 1,.own 2,.own 1,.own 2,.own 0,.own 0,.own 0,.own 0] λ _=>?_
 exact RN.ret [.own 0,.own 0,.own 0,.own 0] [] [] ⟨rfl,rfl⟩
theorem uU (r:Int) (l:List V2) (b cap:Nat) (pos:V2) (F:HL) (hb:(b,.rows 2 cap (jm l) 29 (0,0)) ∈ F) (h3:3 <= l.length) (h4:l.length <= cap) (h5:l.length <= 1000000):Sp Tryz.prog 204 #[.agg #[vI r,vS b 0 l.length cap],.agg #[vI pos.x,vI pos.y]] [] F (λ u H'=>u=.agg #[vI ((dY ⟨r,l,some ⟨b,0,none⟩,cap⟩ pos).x0),vI ((dY ⟨r,l,some ⟨b,0,none⟩,cap⟩ pos).y0),vI ((dY ⟨r,l,some ⟨b,0,none⟩,cap⟩ pos).x1),vI ((dY ⟨r,l,some ⟨b,0,none⟩,cap⟩ pos).y1)] /\ H'=[]):=by
 refine Sp.run Tryz.func204 rfl (mc hb mn) (A:=[]) (Ts:=[]) rfl λ w0=>?_
 refine ae 11 [.own 2,.own 2] λ n1=>aj (nC r (some ⟨b,0,none⟩) l.length cap _)<|ae 2 [] λ _=>cV 11 (decide_eq_false (show ¬ ((l.length:Int)=0) by omega))<|ae 4 [] λ _=>RN.draw [7] []<|aJ [] [0,1,2,3,4] [.own 1,.own 1,.own 2,.ix 0,.rorow 0 0 0,.rorow 0 0 1] [((0+0 * 2)+1)=0 * 2+1 /\ 0 < cap,(0+0 * 2)=0 * 2+0 /\ 0 < cap,0=((0:Nat):Int) /\ 0 < l.length]<|ar [] 5 (λ X_=>(dT pos (l.getD 0 ⟨0,0⟩)  _))<|RD.one 6 (RDO.ev [] [] λ n2=>?_)
 refine RD.one 7 (RDO.ev [] [.own 0,.own 0] λ _=>?_)
 refine RD.fin<|al 27 (ow 0 8++[.own 4,.sl 1 l.length false]) [1=((1:Nat):Int) /\ l.length=l.length /\ 1 <= l.length /\ l.length <= cap /\ cap ≠ 1] λ n3=>RN.loop (σ:=Nat) (λ k=>⟨[(3,vP (n1+1) 0),(4,vP (n1+2) 0),(6,vP (n3+0) 0),(50,vS b 2 (l.length - 1) (cap - 1)),(51,vI (((l.length - 1):Nat):Int)),(52,vI (k:Int))],[((n3+0),.lit [vI ((lM pos l k).x0),vI ((lM pos l k).y0),vI ((lM pos l k).x1),vI ((lM pos l k).y1)] 25 (0,0)),((n2+0),.lit [vI ((aC pos (l.getD 0 ⟨0,0⟩)).x),vI ((aC pos (l.getD 0 ⟨0,0⟩)).y)] 29 (0,0)),((n1+2),.lit [vI 0,vI 0,vI 0,vI 0] 25 (0,0)),((n1+1),.lit [vI pos.x,vI pos.y] 29 (0,0)),((n1+0),.lit [vI r,vS b 0 l.length cap] 101 (0,0))],[],k <= l.length - 1,l.length - k⟩) 0 [0,1,2,3,4] [] (Nat.zero_le _) ?_
 rintro k hI4 mt5
 refine ae 6 [] λ _=>RN.em ((k:Int) < (((l.length - 1):Nat):Int)) 53 (λ h6=>?_) λ h6=>?_
 ·refine al 17 [.ix k,.rorow 0 (1+k) 0,.rorow 0 (1+k) 1,.own 0,.own 0,.own 4,.own 4,.own 0,.own 0] [((2+k * 2)+1)=(1+k) * 2+1 /\ (1+k) < cap,(2+k * 2)=(1+k) * 2+0 /\ (1+k) < cap,(k:Int)=((k:Nat):Int) /\ k < (l.length - 1)] λ n7=>aj (dT pos (l.getD (1+k) ⟨0,0⟩)  _)<|ae 5 [.own 0,.own 0] λ n8=>RN.draw [11,13] [0,1,3,4,5,6]<|ag [0,1,3,4,5,6] [0,2,5,7,1,3,6,8,4,9,10] [.own 2,.own 0,.own 2,.ro 0]<|RD.one 11 (RDO.ev [0,1,3,4,5,6] [.own 2] λ _=>?_)
  refine ag [0,1,3,4,5,6] [12] []<|RD.one 13 (RDO.ev [0,1,3,4,5,6] [.own 2] λ _=>?_)
  refine RD.fin<|ae 1 [] λ _=>RN.draw [11,13] [0,1,3,4,5,6]<|ag [0,1,3,4,5,6] [0,2,5,7,1,3,6,8,4,9,10] [.own 2,.own 0,.own 2,.ro 0]<|RD.one 11 (RDO.ev [0,1,3,4,5,6] [.own 2] λ _=>?_)
  refine ag [0,1,3,4,5,6] [12] []<|RD.one 13 (RDO.ev [0,1,3,4,5,6] [.own 2] λ _=>?_)
  refine RD.fin<|al 6 [.nw] [br ((k:Int)+1)] λ _=>?_
  refine mt5 (k+1) [2,3,4,5,6] [] ?_
  try dsimp only
  refine ⟨by omega,by omega⟩
 ·refine ae 12 [.own 0,.own 0,.own 0,.own 0,.own 2,.own 2,.own 2,.own 2] λ _=>RN.ret [.own 2,.own 2,.own 2,.own 2] [] [] (v:=.agg #[vI ((lM pos l k).x0),vI ((lM pos l k).y0),vI ((lM pos l k).x1),vI ((lM pos l k).y1)]) (H':=[]) ?_
  have ek:k=l.length - 1:=by omega
  subst ek
  refine ⟨?_,rfl⟩
  unfold dY
  rw [if_neg (by intro e;simp [i9] at e;rw [e] at h3;simp at h3)]
theorem pO (s:Shp) (pos:V2) (F:HL) (h:ShIn F s):Sp Tryz.prog 204 #[LI s,.agg #[vI pos.x,vI pos.y]] [] F (λ u H'=>u=.agg #[vI (dY s pos).x0,vI (dY s pos).y0,vI (dY s pos).x1,vI (dY s pos).y1] /\ H'=[]):=by
 cases h with
 | circle r A cap=>exact rv r A cap pos F
 | poly r l b cap h h3 h4 h5=>exact uU r l b cap pos F h h3 h4 h5
end Go.Proofs.YtghjbimijeinfaaGreatDoor
