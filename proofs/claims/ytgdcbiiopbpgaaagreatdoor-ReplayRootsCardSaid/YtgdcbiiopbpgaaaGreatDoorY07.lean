import Derived.Test.YtgdcbiiopbpgaaaGreatDoorY06
import Derived.Test.YtgdcbiiopbpgaaaGreatDoorProg
import Derived.Shelf.Small.Bits
import Derived.Shelf.Strconv.Itoa0
set_option maxHeartbeats 4000000
set_option maxRecDepth 100000
set_option linter.unusedSimpArgs false
set_option linter.unusedVariables false
namespace Go.Proofs.YtgdcbiiopbpgaaaGreatDoor
open Go.RowKit
abbrev aY (n:Int):Int:=IntKind.i64.wrap n
structure V2 where (x y:Int)
structure Bx where (x0 y0 x1 y1:Int)
structure Mot where (px py vx vy inv:Int)
structure Con where (nx ny d:Int)
def aF (n lo hi:Int):Int:=if n < lo then lo else if n > hi then hi else n
def kI (a b:Int):Int:=if b=0 then 0 else if (a.tmod b > 0 /\ b < 0) \/ (a.tmod b < 0 /\ b > 0) then aY (aY (a.tdiv b) - 1) else aY (a.tdiv b)
def fP (a b:Int):Int:=kI (aY (a * b)) 1024
def az (a b c:Int):Int:=kI (aY (a * b)) c
theorem cy (n:Int) (lo:Int) (hi:Int)  (F:HL):Sp Tryz.prog 191 #[vI n,vI lo,vI hi] [] F (λ u H'=>u=vI (aF n lo hi) /\ H'=[]):=by
 refine Sp.run Tryz.func191 rfl mn (A:=[]) (Ts:=[]) rfl λ w0=>?_
 refine ae 15 [] λ _=>RN.em (n < lo) 7 (λ h1=>?_) λ h1=>?_
 ·refine ae 7 [] λ _=>RN.ret [] [] [] (v:=vI lo) (H':=[]) ?_
  exact ⟨by unfold aF;simp [*],rfl⟩
 ·refine ae 9 [] λ _=>RN.em (n > hi) 12 (λ h2=>?_) λ h2=>?_
  ·refine ae 7 [] λ _=>RN.ret [] [] [] (v:=vI hi) (H':=[]) ?_
   exact ⟨by unfold aF;simp [*],rfl⟩
  ·refine ae 10 [] λ _=>RN.ret [] [] [] (v:=vI n) (H':=[]) ?_
   exact ⟨by unfold aF;simp [*],rfl⟩
theorem mZ (a:Int) (b:Int)  (F:HL):Sp Tryz.prog 229 #[vI a,vI b] [] F (λ u H'=>u=vI (kI a b) /\ H'=[]):=by
 refine Sp.run Tryz.func229 rfl mn (A:=[]) (Ts:=[]) rfl λ w0=>?_
 refine ae 12 [] λ _=>RN.em (b=0) 8 (λ h1=>?_) λ h1=>?_
 ·refine ae 6 [] λ _=>RN.ret [] [] [] (v:=vI 0) (H':=[]) ?_
  exact ⟨by unfold kI;simp [*],rfl⟩
 ·refine ae 4 [] λ _=>RN.draw [] []<|aH [] [0,1,3,4,2,5,6,7] [.dv,.dv] [b ≠ 0,b ≠ 0]<|RD.fin<|ae 13 [] λ _=>RN.em (a.tmod b > 0) 18 (λ h2=>?_) λ h2=>?_
  ·refine ae 6 [] λ _=>RN.em (b < 0) 15 (λ h3=>?_) λ h3=>?_
   ·refine ae 23 [] λ _=>RN.ret [] [] [] (v:=vI (IntKind.i64.wrap ((IntKind.i64.wrap (a.tdiv b)) - 1))) (H':=[]) ?_
    exact ⟨by unfold kI;simp [*],rfl⟩
   ·refine ae 8 [] λ _=>RN.em (a.tmod b < 0) 25 (λ h4=>?_) λ h4=>?_
    ·refine ae 6 [] λ _=>RN.em (b > 0) 22 (λ h5=>?_) λ h5=>?_
     ·refine ae 22 [] λ _=>RN.ret [] [] [] (v:=vI (IntKind.i64.wrap ((IntKind.i64.wrap (a.tdiv b)) - 1))) (H':=[]) ?_
      exact ⟨by unfold kI;simp [*],rfl⟩
     ·refine ae 15 [] λ _=>RN.ret [] [] [] (v:=vI (IntKind.i64.wrap (a.tdiv b))) (H':=[]) ?_
      exact ⟨by unfold kI;simp [*],rfl⟩
    ·refine ae 21 [] λ _=>RN.ret [] [] [] (v:=vI (IntKind.i64.wrap (a.tdiv b))) (H':=[]) ?_
     exact ⟨by unfold kI;simp [*],rfl⟩
  ·refine ae 14 [] λ _=>RN.em (a.tmod b < 0) 25 (λ h6=>?_) λ h6=>?_
   ·refine ae 6 [] λ _=>RN.em (b > 0) 22 (λ h7=>?_) λ h7=>?_
    ·refine ae 22 [] λ _=>RN.ret [] [] [] (v:=vI (IntKind.i64.wrap ((IntKind.i64.wrap (a.tdiv b)) - 1))) (H':=[]) ?_
     exact ⟨by unfold kI;simp [*],rfl⟩
    ·refine ae 15 [] λ _=>RN.ret [] [] [] (v:=vI (IntKind.i64.wrap (a.tdiv b))) (H':=[]) ?_
     exact ⟨by unfold kI;simp [*],rfl⟩
   ·refine ae 21 [] λ _=>RN.ret [] [] [] (v:=vI (IntKind.i64.wrap (a.tdiv b))) (H':=[]) ?_
    exact ⟨by unfold kI;simp [*],rfl⟩
theorem m0 (a:Int) (b:Int)  (F:HL):Sp Tryz.prog 212 #[vI a,vI b] [] F (λ u H'=>u=vI (fP a b) /\ H'=[]):=by
 refine Sp.run Tryz.func212 rfl mn (A:=[]) (Ts:=[]) rfl λ w0=>?_
 refine ae 10 [] λ _=>aj (mZ (IntKind.i64.wrap (a * b)) 1024  _)<|ae 3 [] λ _=>?_
 exact RN.ret [] [] [] ⟨rfl,rfl⟩
theorem fS (a:Int) (b:Int) (c:Int)  (F:HL):Sp Tryz.prog 238 #[vI a,vI b,vI c] [] F (λ u H'=>u=vI (az a b c) /\ H'=[]):=by
 refine Sp.run Tryz.func238 rfl mn (A:=[]) (Ts:=[]) rfl λ w0=>?_
 refine ae 11 [] λ _=>aj (mZ (IntKind.i64.wrap (a * b)) c  _)<|ae 3 [] λ _=>?_
 exact RN.ret [] [] [] ⟨rfl,rfl⟩
end Go.Proofs.YtgdcbiiopbpgaaaGreatDoor
namespace Go.Proofs
open Go.Shelf
def nU:Go.Shelf.Ren:=⟨λ | 125=>106 | 128=>126 | 129=>127 | n=>n,λ | 46=>153 | 3=>3 | 51=>230 | 53=>45 | 4=>4 | 5=>5 | 9=>9 | n=>n,λ | n=>n⟩
theorem tP:Go.Proofs.Lays.n125 Tryz.prog nU:={
 mixed:=by kernel_rfl
 f125:=Tryz.func106.trans (congrArg some (by kernel_rfl))
 f128:=Tryz.func126.trans (congrArg some (by kernel_rfl))
 f129:=Tryz.func127.trans (congrArg some (by kernel_rfl))
 t3:=Tryz.underlying3
 a3:=Tryz.isAgg3
 z3:=Tryz.sizeOf3
 v3:=Tryz.zeroValue3
 t4:=Tryz.underlying4
 a4:=Tryz.isAgg4
 z4:=Tryz.sizeOf4
 v4:=Tryz.zeroValue4
 t5:=Tryz.underlying5
 a5:=Tryz.isAgg5
 z5:=Tryz.sizeOf5
 v5:=Tryz.zeroValue5
 t9:=Tryz.underlying9
 a9:=Tryz.isAgg9
 z9:=Tryz.sizeOf9
 v9:=Tryz.zeroValue9
 t46:=Tryz.underlying153
 a46:=Tryz.isAgg153
 z46:=Tryz.sizeOf153
 v46:=Tryz.zeroValue153
 t51:=Tryz.underlying230
 a51:=Tryz.isAgg230
 z51:=Tryz.sizeOf230
 v51:=Tryz.zeroValue230
 t53:=Tryz.underlying45
 a53:=Tryz.isAgg45
 z53:=Tryz.sizeOf45
 v53:=Tryz.zeroValue45 }
theorem Tryz.bits_Len (x:Int) (w:World) (h0:0 <= x) (h1:x <= 18446744073709551615) :
 Calls Tryz.prog 106 #[.int .u64 x] w λ e w'=>e=.returned (.int .i64 (Lib.bitLen x.toNat)) /\ w'=w:=Any.bits_Len tP x w h0 h1
end Go.Proofs
namespace Go.Proofs.YtgdcbiiopbpgaaaGreatDoor
open Go.RowKit
abbrev uV (n:Int):Int:=IntKind.u64.wrap n
theorem tQ (n:Int):0 <= uV n /\ uV n <= 18446744073709551615:=by
 show 0 <= IntKind.u64.wrap n /\ IntKind.u64.wrap n <= _
 unfold IntKind.wrap
 simp [IntKind.signed,IntKind.bits]
 omega
abbrev tR (n:Int):Int:=(Lib.bitLen (uV n).toNat:Int)
theorem uW (n:Int) (F:HL):Sp Tryz.prog 106 #[.int .u64 (uV n)] [] F (λ u H'=>u=vI (tR n) /\ H'=[]) :=
 uO (λ w=>Tryz.bits_Len _ w (tQ n).1 (tQ n).2) F
theorem Hv (n:Int):0 <= tR n /\ tR n <= 64:=by
 have h:=tQ n
 have:=Lib.bitLen_le (uV n).toNat 64 (by omega) (by omega)
 unfold tR
 omega
def Hw (r:Int) (k:Nat):Int:=aY ((BitVec.ofInt 64 r ||| BitVec.ofInt 64 (aY (1 * 2 ^ min k 64))).toNat:Int)
def tS (n:Int):Nat -> Int -> Int
 | 0,r=>r
 | k+1,r=>tS n k (if Hw r k > aY (n.tdiv (Hw r k)) then r else Hw r k)
def Bl (n:Int):Int:=aY (aY ((aY (tR n+1)).tdiv 2) - 1)
def tT (n:Int):Int:=if n <= 0 then 0 else tS n (Bl n+1).toNat 0
theorem N7 (v:BitVec 64) (h:aY (v.toNat:Int)=0):v=0#64:=by
 apply BitVec.eq_of_toNat_eq
 have h2:v.toNat < 18446744073709551616:=v.isLt
 generalize v.toNat=m at *
 rw [aY,IntKind.wrap_i64] at h
 simp
 omega
theorem Kb (r:Int) {k:Nat} (hk:k < 40):Hw r k ≠ 0:=by
 intro h
 have hb:BitVec.ofInt 64 (aY (1 * 2 ^ min k 64)) ≠ 0#64:=by
  have:∀ k < 40,BitVec.ofInt 64 (aY (1 * 2 ^ min k 64)) ≠ 0#64:=by decide
  exact this k hk
 have h1:=N7 _ h
 clear h
 generalize BitVec.ofInt 64 (aY (1 * 2 ^ min k 64))=b at *
 generalize BitVec.ofInt 64 r=a at *
 apply hb
 have:(a ||| b) &&& b=b:=by
  apply BitVec.eq_of_getLsbD_eq
  intro i hi
  simp
  intro h
  exact .inr h
 rw [h1] at this
 simpa using this.symm
theorem zD (n:Int):-1 <= Bl n /\ Bl n <= 31:=by
 have:=Hv n
 unfold Bl aY
 generalize tR n=l at *
 have e1:IntKind.i64.wrap (l+1)=l+1:=by rw [IntKind.wrap_i64];omega
 rw [e1,Int.tdiv_eq_ediv_of_nonneg (by omega)]
 have e2:IntKind.i64.wrap ((l+1) / 2)=(l+1) / 2:=by rw [IntKind.wrap_i64];omega
 rw [e2,IntKind.wrap_i64]
 omega
theorem cV {x:Int} (h:-9223372036854775808 <= x /\ x <= 9223372036854775807):aY x=x:=by
 rw [aY,IntKind.wrap_i64];omega
theorem uX {n r s:Int} {k:Int} (h0:¬ s < 0) (h:tS n (s+1).toNat r=k):tS n s.toNat (if Hw r s.toNat > aY (n.tdiv (Hw r s.toNat)) then r else Hw r s.toNat)=k:=by
 have e:(s+1).toNat=s.toNat+1:=by omega
 rw [e,tS] at h
 exact h
theorem Bm (n:Int)  (F:HL):Sp Tryz.prog 298 #[vI n] [] F (λ u H'=>u=vI (tT n) /\ H'=[]):=by
 refine Sp.run Tryz.func298 rfl mn (A:=[]) (Ts:=[]) rfl λ w0=>?_
 refine ae 13 [] λ _=>RN.em (n <= 0) 7 (λ h1=>?_) λ h1=>?_
 ·refine ae 6 [] λ _=>RN.ret [] [] [] (v:=vI 0) (H':=[]) ?_
  refine ⟨?_,rfl⟩
  unfold tT
  first | (simp [*];done) | (have e:(s+1).toNat=0:=by omega);(rw [e,tS] at hI2);(simp [*])
 ·refine ae 16 [] λ _=>aj (uW n _)<|ae 7 [] λ _=>RN.loop (σ:=Int × Int) (λ ⟨r,s⟩=>⟨[(0,vI n),(3,vI r),(4,vI s)],[],[],-1 <= s /\ s <= 31 /\ tS n (s+1).toNat r=tS n (Bl n+1).toNat 0,(s+1).toNat⟩) (0,Bl n) [] [] (⟨(zD n).1,(zD n).2,rfl⟩) ?_
  rintro ⟨r,s⟩ ⟨hI0,hI1,hI2⟩ mt3
  have hw:s >= 0 -> IntKind.i64.wrap (s - 1)=s - 1:=λ _=>cV (by omega)
  have hsub:(s - 1+1).toNat=s.toNat:=by rw [Int.sub_add_cancel]
  refine ae 7 [] λ _=>RN.em (s >= 0) 15 (λ h4=>?_) λ h4=>?_
  ·refine pY 24 [.dv,.gen,.dv] (λ _=>[IntKind.i64.wrap ((BitVec.ofInt 64 r ||| BitVec.ofInt 64 (IntKind.i64.wrap (1 * 2 ^ min (s).toNat 64))).toNat:Int) ≠ 0,0 <= s]) (λ _=>(ac (Kb r (by omega)) (ac (by omega) an))) λ _=>RN.em (IntKind.i64.wrap ((BitVec.ofInt 64 r ||| BitVec.ofInt 64 (IntKind.i64.wrap (1 * 2 ^ min (s).toNat 64))).toNat:Int) > IntKind.i64.wrap (n.tdiv (IntKind.i64.wrap ((BitVec.ofInt 64 r ||| BitVec.ofInt 64 (IntKind.i64.wrap (1 * 2 ^ min (s).toNat 64))).toNat:Int)))) 26 (λ h5=>?_) λ h5=>?_
   ·refine ae 10 [] λ _=>?_
    refine mt3 (r,IntKind.i64.wrap (s - 1)) [] [] ?_
    try dsimp only
    have hN:=uX (by omega) hI2
    rw [hw (by assumption),hsub]
    refine ⟨⟨by omega,by omega,?_⟩,by omega⟩
    simpa only [Hw, *,if_true,if_false] using hN
   ·refine ae 14 [] λ _=>?_
    refine mt3 (IntKind.i64.wrap ((BitVec.ofInt 64 r ||| BitVec.ofInt 64 (IntKind.i64.wrap (1 * 2 ^ min (s).toNat 64))).toNat:Int),IntKind.i64.wrap (s - 1)) [] [] ?_
    try dsimp only
    have hN:=uX (by omega) hI2
    rw [hw (by assumption),hsub]
    refine ⟨⟨by omega,by omega,?_⟩,by omega⟩
    simpa only [Hw, *,if_true,if_false] using hN
  ·refine ae 12 [] λ _=>RN.ret [] [] [] (v:=vI r) (H':=[]) ?_
   refine ⟨?_,rfl⟩
   unfold tT
   first | (simp [*];done) | (have e:(s+1).toNat=0:=by omega);(rw [e,tS] at hI2);(simp [*])
def aD (a b:V2):V2:=⟨aY (a.x+b.x),aY (a.y+b.y)⟩
def dp (a b:V2):V2:=⟨aY (a.x - b.x),aY (a.y - b.y)⟩
def Bn (a:V2):V2:=dp ⟨0,0⟩ a
def ao (a:V2) (f:Int):V2:=⟨fP a.x f,fP a.y f⟩
def eD (a:V2) (n d:Int):V2:=⟨az a.x n d,az a.y n d⟩
def Dx (n:Int):Int:=n.fdiv 1024
def cW (a b:V2):Int:=Dx (aY (aY (a.x * b.x)+aY (a.y * b.y)))
def Dy (a:V2):Int:=tT (aY (aY (a.x * a.x)+aY (a.y * a.y)))
def sk (a:V2):Prop:=a.x=0 /\ a.y=0
instance (a:V2):Decidable (sk a):=inferInstanceAs (Decidable (_ /\ _))
def kg (a:V2):V2:=if sk a then a else eD a 1024 (Dy a)
theorem uY (m n:Int) (F:HL):Sp Tryz.prog 210 #[vI m,vI n] [] F (λ u H'=>u=vI (aY (m+n)) /\ H'=[]):=by
 refine Sp.run Tryz.func210 rfl mn (A:=[]) (Ts:=[]) rfl λ w0=>?_
 refine ae 13 [] λ _=>?_
 exact RN.ret [] [] [] ⟨rfl,rfl⟩
theorem uZ (m n:Int) (F:HL):Sp Tryz.prog 263 #[vI m,vI n] [] F (λ u H'=>u=vI (aY (m - n)) /\ H'=[]):=by
 refine Sp.run Tryz.func263 rfl mn (A:=[]) (Ts:=[]) rfl λ w0=>?_
 refine ae 13 [] λ _=>?_
 exact RN.ret [] [] [] ⟨rfl,rfl⟩
theorem oV (m n d:Int) (b:Nat) (F:HL) (hb:(b,.lit [vI d] 3 (0,0)) ∈ F):Sp Tryz.prog 246 #[vI m,vI n,vP b 0] [] F (λ u H'=>u=vI (az m n d) /\ H'=[]):=by
 refine Sp.run Tryz.func246 rfl (mc hb mn) (A:=[]) (Ts:=[]) rfl λ w0=>?_
 refine ae 10 [.ro 0] λ _=>aj (fS m n d  _)<|ae 3 [] λ _=>?_
 exact RN.ret [] [] [] ⟨rfl,rfl⟩
theorem Dz (a b:V2)  (F:HL):Sp Tryz.prog 209 #[.agg #[vI a.x,vI a.y],.agg #[vI b.x,vI b.y],.func (.func 210) #[] #[]] [] F (λ u H'=>u=.agg #[vI ((aD a b).x),vI ((aD a b).y)] /\ H'=[]):=by
 refine Sp.run Tryz.func209 rfl mn (A:=[]) (Ts:=[]) rfl λ w0=>?_
 refine ae 8 [] λ n1=>RN.draw [13] []<|ag [] [0,1,3,6,7,9,2,4,8,10] [.own 2,.own 1,.own 2,.own 1]<|ar [] 5 (λ X_=>(uY a.x b.x _))<|ar [] 11 (λ X_=>(uY a.y b.y _))<|ag [] [12] []<|RD.one 13 (RDO.ev [] [.own 0,.own 0] λ _=>?_)
 refine RD.fin<|ae 1 [] λ _=>?_
 exact RN.ret [.own 0,.own 0] [] [] ⟨rfl,rfl⟩
theorem DA (a b:V2)  (F:HL):Sp Tryz.prog 209 #[.agg #[vI a.x,vI a.y],.agg #[vI b.x,vI b.y],.func (.func 263) #[] #[]] [] F (λ u H'=>u=.agg #[vI ((dp a b).x),vI ((dp a b).y)] /\ H'=[]):=by
 refine Sp.run Tryz.func209 rfl mn (A:=[]) (Ts:=[]) rfl λ w0=>?_
 refine ae 8 [] λ n1=>RN.draw [13] []<|ag [] [0,1,3,6,7,9,2,4,8,10] [.own 2,.own 1,.own 2,.own 1]<|ar [] 5 (λ X_=>(uZ a.x b.x _))<|ar [] 11 (λ X_=>(uZ a.y b.y _))<|ag [] [12] []<|RD.one 13 (RDO.ev [] [.own 0,.own 0] λ _=>?_)
 refine RD.fin<|ae 1 [] λ _=>?_
 exact RN.ret [.own 0,.own 0] [] [] ⟨rfl,rfl⟩
theorem DB (a b:V2)  (F:HL):Sp Tryz.prog 209 #[.agg #[vI a.x,vI a.y],.agg #[vI b.x,vI b.y],.func (.func 212) #[] #[]] [] F (λ u H'=>u=.agg #[vI ((⟨fP a.x b.x,fP a.y b.y⟩:V2).x),vI ((⟨fP a.x b.x,fP a.y b.y⟩:V2).y)] /\ H'=[]):=by
 refine Sp.run Tryz.func209 rfl mn (A:=[]) (Ts:=[]) rfl λ w0=>?_
 refine ae 8 [] λ n1=>RN.draw [13] []<|ag [] [0,1,3,6,7,9,2,4,8,10] [.own 2,.own 1,.own 2,.own 1]<|ar [] 5 (λ X_=>(m0 a.x b.x  _))<|ar [] 11 (λ X_=>(m0 a.y b.y  _))<|ag [] [12] []<|RD.one 13 (RDO.ev [] [.own 0,.own 0] λ _=>?_)
 refine RD.fin<|ae 1 [] λ _=>?_
 exact RN.ret [.own 0,.own 0] [] [] ⟨rfl,rfl⟩
theorem u9 (a b:V2) (d:Int) (q:Nat) (F:HL) (hq:(q,.lit [vI d] 3 (0,0)) ∈ F):Sp Tryz.prog 209 #[.agg #[vI a.x,vI a.y],.agg #[vI b.x,vI b.y],.func (.func 246) #[] #[vP q 0]] [] F (λ u H'=>u=.agg #[vI ((⟨az a.x b.x d,az a.y b.y d⟩:V2).x),vI ((⟨az a.x b.x d,az a.y b.y d⟩:V2).y)] /\ H'=[]):=by
 refine Sp.run Tryz.func209 rfl (mc hq mn) (A:=[]) (Ts:=[]) rfl λ w0=>?_
 refine ae 8 [] λ n1=>RN.draw [13] []<|ag [] [0,1,3,6,7,9,2,4,8,10] [.own 2,.own 1,.own 2,.own 1]<|ar [] 5 (λ X_=>(oV a.x b.x d q _ (pX hq)))<|ar [] 11 (λ X_=>(oV a.y b.y d q _ (pX hq)))<|ag [] [12] []<|RD.one 13 (RDO.ev [] [.own 0,.own 0] λ _=>?_)
 refine RD.fin<|ae 1 [] λ _=>?_
 exact RN.ret [.own 0,.own 0] [] [] ⟨rfl,rfl⟩
theorem oW (n:Int) (F:HL):Sp Tryz.prog 211 #[vI n] [] F (λ u H'=>u=.agg #[vI n,vI n] /\ H'=[]):=by
 refine Sp.run Tryz.func211 rfl mn (A:=[]) (Ts:=[]) rfl λ w0=>?_
 refine ae 13 [.own 0,.own 0] λ n1=>?_
 exact RN.ret [.own 0,.own 0] [] [] ⟨rfl,rfl⟩
theorem dZ (a:V2) (b:V2)  (F:HL):Sp Tryz.prog 189 #[.agg #[vI a.x,vI a.y],.agg #[vI b.x,vI b.y]] [] F (λ u H'=>u=.agg #[vI ((aD a b).x),vI ((aD a b).y)] /\ H'=[]):=by
 refine Sp.run Tryz.func189 rfl mn (A:=[]) (Ts:=[]) rfl λ w0=>?_
 refine ae 11 [.own 2,.own 2,.own 1,.own 1] λ n1=>aj (Dz a b _)<|ae 3 [.own 0,.own 0] λ _=>?_
 exact RN.ret [.own 0,.own 0] [] [] ⟨rfl,rfl⟩
theorem iu (a:V2) (b:V2)  (F:HL):Sp Tryz.prog 235 #[.agg #[vI a.x,vI a.y],.agg #[vI b.x,vI b.y]] [] F (λ u H'=>u=.agg #[vI ((dp a b).x),vI ((dp a b).y)] /\ H'=[]):=by
 refine Sp.run Tryz.func235 rfl mn (A:=[]) (Ts:=[]) rfl λ w0=>?_
 refine ae 11 [.own 2,.own 2,.own 1,.own 1] λ n1=>aj (DA a b _)<|ae 3 [.own 0,.own 0] λ _=>?_
 exact RN.ret [.own 0,.own 0] [] [] ⟨rfl,rfl⟩
theorem DC (a:V2)  (F:HL):Sp Tryz.prog 236 #[.agg #[vI a.x,vI a.y]] [] F (λ u H'=>u=.agg #[vI ((Bn a).x),vI ((Bn a).y)] /\ H'=[]):=by
 refine Sp.run Tryz.func236 rfl mn (A:=[]) (Ts:=[]) rfl λ w0=>?_
 refine ae 10 [.own 1,.own 1] λ n1=>aj (iu (⟨0,0⟩:V2) a  _)<|ae 3 [.own 0,.own 0] λ _=>?_
 exact RN.ret [.own 0,.own 0] [] [] ⟨rfl,rfl⟩
theorem eK (a:V2) (f:Int)  (F:HL):Sp Tryz.prog 190 #[.agg #[vI a.x,vI a.y],vI f] [] F (λ u H'=>u=.agg #[vI ((ao a f).x),vI ((ao a f).y)] /\ H'=[]):=by
 refine Sp.run Tryz.func190 rfl mn (A:=[]) (Ts:=[]) rfl λ w0=>?_
 refine ae 7 [] λ n1=>RN.draw [4] []<|ag [] [0,1] [.own 1,.own 1]<|ar [] 2 (λ X_=>(oW f _))<|ar [] 3 (λ X_=>(DB a (⟨f,f⟩:V2) _))<|RD.one 4 (RDO.ev [] [.own 0,.own 0] λ _=>?_)
 refine RD.fin<|ae 1 [] λ _=>?_
 exact RN.ret [.own 0,.own 0] [] [] ⟨rfl,rfl⟩
theorem kJ (a:V2) (n:Int) (d:Int)  (F:HL):Sp Tryz.prog 217 #[.agg #[vI a.x,vI a.y],vI n,vI d] [] F (λ u H'=>u=.agg #[vI ((eD a n d).x),vI ((eD a n d).y)] /\ H'=[]):=by
 refine Sp.run Tryz.func217 rfl mn (A:=[]) (Ts:=[]) rfl λ w0=>?_
 refine ae 8 [] λ n1=>RN.draw [5] []<|ag [] [0,1,3] [.own 2,.own 2]<|ar [] 2 (λ X_=>(oW n _))<|ar [] 4 (λ X_=>(u9 a (⟨n,n⟩:V2) d (n1+1) _ (im 1)))<|RD.one 5 (RDO.ev [] [.own 0,.own 0] λ _=>?_)
 refine RD.fin<|ae 1 [] λ _=>?_
 exact RN.ret [.own 0,.own 0] [] [] ⟨rfl,rfl⟩
theorem Bo (n:Int)  (F:HL):Sp Tryz.prog 262 #[vI n] [] F (λ u H'=>u=vI (Dx n) /\ H'=[]):=by
 refine Sp.run Tryz.func262 rfl mn (A:=[]) (Ts:=[]) rfl λ w0=>?_
 refine ae 12 [] λ _=>?_
 exact RN.ret [] [] [] ⟨rfl,rfl⟩
theorem m5 (a:V2) (b:V2)  (F:HL):Sp Tryz.prog 234 #[.agg #[vI a.x,vI a.y],.agg #[vI b.x,vI b.y]] [] F (λ u H'=>u=vI (cW a b) /\ H'=[]):=by
 refine Sp.run Tryz.func234 rfl mn (A:=[]) (Ts:=[]) rfl λ w0=>?_
 refine ae 20 [.own 1,.own 0,.own 1,.own 0] λ n1=>aj (Bo (IntKind.i64.wrap ((IntKind.i64.wrap (a.x * b.x))+(IntKind.i64.wrap (a.y * b.y))))  _)<|ae 3 [] λ _=>?_
 exact RN.ret [] [] [] ⟨rfl,rfl⟩
theorem DD (a:V2)  (F:HL):Sp Tryz.prog 296 #[.agg #[vI a.x,vI a.y]] [] F (λ u H'=>u=vI (Dy a) /\ H'=[]):=by
 refine Sp.run Tryz.func296 rfl mn (A:=[]) (Ts:=[]) rfl λ w0=>?_
 refine ae 19 [.own 0,.own 0,.own 0,.own 0] λ n1=>aj (Bm (IntKind.i64.wrap ((IntKind.i64.wrap (a.x * a.x))+(IntKind.i64.wrap (a.y * a.y))))  _)<|ae 3 [] λ _=>?_
 exact RN.ret [] [] [] ⟨rfl,rfl⟩
theorem Bp (a:V2)  (F:HL):Sp Tryz.prog 292 #[.agg #[vI a.x,vI a.y]] [] F (λ u H'=>u=.agg #[vI ((kg a).x),vI ((kg a).y)] /\ H'=[]):=by
 refine Sp.run Tryz.func292 rfl mn (A:=[]) (Ts:=[]) rfl λ w0=>?_
 refine ae 14 [.own 1,.own 1,.sq] λ n1=>iZ ((decide (a.x=0) && (decide (a.y=0) && true))) 5 (λ h2=>?_) λ h2=>?_
 ·refine ae 7 [.own 1,.own 1,.own 0,.own 0] λ _=>RN.ret [.own 0,.own 0] [] [] (v:=.agg #[vI a.x,vI a.y]) (H':=[]) ?_
  refine ⟨?_,rfl⟩
  unfold kg
  first | rw [if_pos (by simpa [sk] using h2)] | rw [if_neg (by simpa [sk] using h2)]
 ·refine ae 4 [] λ _=>RN.draw [4] []<|ag [] [0,1] [.own 1,.own 1,.own 1,.own 1]<|ar [] 2 (λ X_=>(DD a  _))<|ar [] 3 (λ X_=>(kJ a 1024 (Dy a)  _))<|RD.one 4 (RDO.ev [] [.own 0,.own 0] λ _=>?_)
  refine RD.fin<|ae 1 [] λ _=>RN.ret [.own 0,.own 0] [] [] (v:=.agg #[vI ((eD a 1024 (Dy a)).x),vI ((eD a 1024 (Dy a)).y)]) (H':=[]) ?_
  refine ⟨?_,rfl⟩
  unfold kg
  first | rw [if_pos (by simpa [sk] using h2)] | rw [if_neg (by simpa [sk] using h2)]
structure Shp where (r:Int) (poly:List V2) (A:Option Addr) (cap:Nat)
abbrev LN (s:Shp):Value:=.agg #[vI s.r,.slice s.A s.poly.length s.cap]
def jz (l:List V2):Nat -> Nat -> Value:=λ i k=>match k with | 0=>vI (l.getD i ⟨0,0⟩).x | _=>vI (l.getD i ⟨0,0⟩).y
inductive ShIn (F:HL):Shp -> Prop
 | circle (r:Int) (A:Option Addr) (cap:Nat):ShIn F ⟨r,[],A,cap⟩
 | poly (r:Int) (l:List V2) (b cap:Nat) (h:(b,.rows 2 cap (jz l) 29 (0,0)) ∈ F) (h3:3 <= l.length) (h4:l.length <= cap) (h5:l.length <= 1000000):ShIn F ⟨r,l,some ⟨b,0,none⟩,cap⟩
theorem ShIn.mono {F F':HL} {s:Shp} (h:ShIn F s) (hs:∀ x ∈ F,x ∈ F'):ShIn F' s:=by
 cases h with
 | circle r A cap=>exact .circle r A cap
 | poly r l b cap h h3 h4 h5=>exact .poly r l b cap (hs _ h) h3 h4 h5
def jh (s:Shp):Prop:=s.poly=[]
instance (s:Shp):Decidable (jh s):=decidable_of_iff (s.poly.isEmpty=true) (by simp [jh])
def L8 (b:Bx) (c:V2):Bx:=⟨if c.x < b.x0 then c.x else b.x0,if c.y < b.y0 then c.y else b.y0,if c.x > b.x1 then c.x else b.x1,if c.y > b.y1 then c.y else b.y1⟩
def lT (pos:V2) (l:List V2):Nat -> Bx
 | 0=>⟨(aD pos (l.getD 0 ⟨0,0⟩)).x,(aD pos (l.getD 0 ⟨0,0⟩)).y,(aD pos (l.getD 0 ⟨0,0⟩)).x,(aD pos (l.getD 0 ⟨0,0⟩)).y⟩
 | k+1=>L8 (lT pos l k) (aD pos (l.getD (1+k) ⟨0,0⟩))
def eh (s:Shp) (pos:V2):Bx:=if jh s then ⟨aY (pos.x - s.r),aY (pos.y - s.r),aY (pos.x+s.r),aY (pos.y+s.r)⟩ else lT pos s.poly (s.poly.length - 1)
def oX (a b c d:Int):Prop:=a <= d /\ c <= b
instance (a b c d:Int):Decidable (oX a b c d):=inferInstanceAs (Decidable (_ /\ _))
def LO (a b:Bx):Prop:=oX a.x0 a.x1 b.x0 b.x1 /\ oX a.y0 a.y1 b.y0 b.y1
instance (a b:Bx):Decidable (LO a b):=inferInstanceAs (Decidable (_ /\ _))
theorem nV (r:Int) (A:Option Addr) (n cap:Nat) (F:HL):Sp Tryz.prog 117 #[.agg #[vI r,.slice A n cap]] [] F (λ u H'=>u=.bool (decide ((n:Int)=0)) /\ H'=[]):=by
 refine Sp.run Tryz.func117 rfl mn (A:=[]) (Ts:=[]) rfl λ w0=>?_
 refine ae 15 [.own 0] λ n1=>?_
 exact RN.ret [] [] [] ⟨rfl,rfl⟩
theorem iw (r:Int) (A:Option Addr) (n cap:Nat) (F:HL):Sp Tryz.prog 259 #[.agg #[vI r,.slice A n cap]] [] F (λ u H'=>u=.bool (decide ((n:Int)=0)) /\ H'=[]):=by
 refine Sp.run Tryz.func259 rfl mn (A:=[]) (Ts:=[]) rfl λ w0=>?_
 refine ae 15 [.own 0] λ n1=>?_
 exact RN.ret [] [] [] ⟨rfl,rfl⟩
theorem vc (a:Int) (b:Int) (c:Int) (d:Int)  (F:HL):Sp Tryz.prog 256 #[vI a,vI b,vI c,vI d] [] F (λ u H'=>u=.bool (decide (oX a b c d)) /\ H'=[]):=by
 refine Sp.run Tryz.func256 rfl mn (A:=[]) (Ts:=[]) rfl λ w0=>?_
 refine ae 11 [] λ _=>RN.em (a <= d) 12 (λ h1=>?_) λ h1=>?_
 ·refine ae 7 [] λ _=>RN.ret [] [] [] (v:=.bool (decide (c <= b))) (H':=[]) ?_
  exact ⟨by simp [oX, *],rfl⟩
 ·refine ae 7 [] λ _=>RN.ret [] [] [] (v:=.bool false) (H':=[]) ?_
  exact ⟨by simp [oX, *],rfl⟩
theorem Hy (a:Bx) (b:Bx)  (F:HL):Sp Tryz.prog 230 #[.agg #[vI a.x0,vI a.y0,vI a.x1,vI a.y1],.agg #[vI b.x0,vI b.y0,vI b.x1,vI b.y1]] [] F (λ u H'=>u=.bool (decide (LO a b)) /\ H'=[]):=by
 refine Sp.run Tryz.func230 rfl mn (A:=[]) (Ts:=[]) rfl λ w0=>?_
 refine ae 17 [.own 1,.own 1,.own 0,.own 0] λ n1=>aj (vc a.x0 a.x1 b.x0 b.x1  _)<|ae 1 [] λ _=>RN.em (oX a.x0 a.x1 b.x0 b.x1) 14 (λ h2=>?_) λ h2=>?_
 ·refine ae 8 [.own 1,.own 1,.own 0,.own 0] λ _=>aj (vc a.y0 a.y1 b.y0 b.y1  _)<|ae 4 [] λ _=>RN.ret [] [] [] (v:=.bool (decide (oX a.y0 a.y1 b.y0 b.y1))) (H':=[]) ?_
  exact ⟨by simp [LO, *],rfl⟩
 ·refine ae 13 [] λ _=>RN.ret [] [] [] (v:=.bool false) (H':=[]) ?_
  exact ⟨by simp [LO, *],rfl⟩
theorem rM (r:Int) (A:Option Addr) (cap:Nat) (pos:V2) (F:HL):Sp Tryz.prog 231 #[.agg #[vI r,.slice A 0 cap],.agg #[vI pos.x,vI pos.y]] [] F (λ u H'=>u=.agg #[vI ((eh ⟨r,[],A,cap⟩ pos).x0),vI ((eh ⟨r,[],A,cap⟩ pos).y0),vI ((eh ⟨r,[],A,cap⟩ pos).x1),vI ((eh ⟨r,[],A,cap⟩ pos).y1)] /\ H'=[]):=by
 refine Sp.run Tryz.func231 rfl mn (A:=[]) (Ts:=[]) rfl λ w0=>?_
 refine ae 11 [.own 2,.own 2] λ n1=>aj (nV r A 0 cap _)<|ae 29 [.own 1,.own 2,.own 1,.own 2,.own 1,.own 2,.own 1,.own 2,.own 0,.own 0,.own 0,.own 0] λ _=>?_
 exact RN.ret [.own 0,.own 0,.own 0,.own 0] [] [] ⟨rfl,rfl⟩
theorem vd (r:Int) (l:List V2) (b cap:Nat) (pos:V2) (F:HL) (hb:(b,.rows 2 cap (jz l) 29 (0,0)) ∈ F) (h3:3 <= l.length) (h4:l.length <= cap) (h5:l.length <= 1000000):Sp Tryz.prog 231 #[.agg #[vI r,vS b 0 l.length cap],.agg #[vI pos.x,vI pos.y]] [] F (λ u H'=>u=.agg #[vI ((eh ⟨r,l,some ⟨b,0,none⟩,cap⟩ pos).x0),vI ((eh ⟨r,l,some ⟨b,0,none⟩,cap⟩ pos).y0),vI ((eh ⟨r,l,some ⟨b,0,none⟩,cap⟩ pos).x1),vI ((eh ⟨r,l,some ⟨b,0,none⟩,cap⟩ pos).y1)] /\ H'=[]):=by
 refine Sp.run Tryz.func231 rfl (mc hb mn) (A:=[]) (Ts:=[]) rfl λ w0=>?_
 refine ae 11 [.own 2,.own 2] λ n1=>aj (nV r (some ⟨b,0,none⟩) l.length cap _)<|ae 2 [] λ _=>cT 11 (decide_eq_false (show ¬ ((l.length:Int)=0) by omega))<|ae 4 [] λ _=>RN.draw [7] []<|aH [] [0,1,2,3,4] [.own 1,.own 1,.own 2,.ix 0,.rorow 0 0 0,.rorow 0 0 1] [((0+0 * 2)+1)=0 * 2+1 /\ 0 < cap,(0+0 * 2)=0 * 2+0 /\ 0 < cap,0=((0:Nat):Int) /\ 0 < l.length]<|ar [] 5 (λ X_=>(dZ pos (l.getD 0 ⟨0,0⟩)  _))<|RD.one 6 (RDO.ev [] [] λ n2=>?_)
 refine RD.one 7 (RDO.ev [] [.own 0,.own 0] λ _=>?_)
 refine RD.fin<|ai 27 (ow 0 8++[.own 4,.sl 1 l.length false]) [1=((1:Nat):Int) /\ l.length=l.length /\ 1 <= l.length /\ l.length <= cap /\ cap ≠ 1] λ n3=>RN.loop (σ:=Nat) (λ k=>⟨[(3,vP (n1+1) 0),(4,vP (n1+2) 0),(6,vP (n3+0) 0),(50,vS b 2 (l.length - 1) (cap - 1)),(51,vI (((l.length - 1):Nat):Int)),(52,vI (k:Int))],[((n3+0),.lit [vI ((lT pos l k).x0),vI ((lT pos l k).y0),vI ((lT pos l k).x1),vI ((lT pos l k).y1)] 25 (0,0)),((n2+0),.lit [vI ((aD pos (l.getD 0 ⟨0,0⟩)).x),vI ((aD pos (l.getD 0 ⟨0,0⟩)).y)] 29 (0,0)),((n1+2),.lit [vI 0,vI 0,vI 0,vI 0] 25 (0,0)),((n1+1),.lit [vI pos.x,vI pos.y] 29 (0,0)),((n1+0),.lit [vI r,vS b 0 l.length cap] 73 (0,0))],[],k <= l.length - 1,l.length - k⟩) 0 [0,1,2,3,4] [] (Nat.zero_le _) ?_
 rintro k hI4 mt5
 refine ae 6 [] λ _=>RN.em ((k:Int) < (((l.length - 1):Nat):Int)) 53 (λ h6=>?_) λ h6=>?_
 ·refine ai 17 [.ix k,.rorow 0 (1+k) 0,.rorow 0 (1+k) 1,.own 0,.own 0,.own 4,.own 4,.own 0,.own 0] [((2+k * 2)+1)=(1+k) * 2+1 /\ (1+k) < cap,(2+k * 2)=(1+k) * 2+0 /\ (1+k) < cap,(k:Int)=((k:Nat):Int) /\ k < (l.length - 1)] λ n7=>aj (dZ pos (l.getD (1+k) ⟨0,0⟩)  _)<|ae 5 [.own 0,.own 0] λ n8=>RN.draw [11,13] [0,1,3,4,5,6]<|ag [0,1,3,4,5,6] [0,2,5,7,1,3,6,8,4,9,10] [.own 2,.own 0,.own 2,.ro 0]<|RD.one 11 (RDO.ev [0,1,3,4,5,6] [.own 2] λ _=>?_)
  refine ag [0,1,3,4,5,6] [12] []<|RD.one 13 (RDO.ev [0,1,3,4,5,6] [.own 2] λ _=>?_)
  refine RD.fin<|ae 1 [] λ _=>RN.draw [11,13] [0,1,3,4,5,6]<|ag [0,1,3,4,5,6] [0,2,5,7,1,3,6,8,4,9,10] [.own 2,.own 0,.own 2,.ro 0]<|RD.one 11 (RDO.ev [0,1,3,4,5,6] [.own 2] λ _=>?_)
  refine ag [0,1,3,4,5,6] [12] []<|RD.one 13 (RDO.ev [0,1,3,4,5,6] [.own 2] λ _=>?_)
  refine RD.fin<|ai 6 [.nw] [bd ((k:Int)+1)] λ _=>?_
  refine mt5 (k+1) [2,3,4,5,6] [] ?_
  try dsimp only
  refine ⟨by omega,by omega⟩
 ·refine ae 12 [.own 0,.own 0,.own 0,.own 0,.own 2,.own 2,.own 2,.own 2] λ _=>RN.ret [.own 2,.own 2,.own 2,.own 2] [] [] (v:=.agg #[vI ((lT pos l k).x0),vI ((lT pos l k).y0),vI ((lT pos l k).x1),vI ((lT pos l k).y1)]) (H':=[]) ?_
  have ek:k=l.length - 1:=by omega
  subst ek
  refine ⟨?_,rfl⟩
  unfold eh
  rw [if_neg (by intro e;simp [jh] at e;rw [e] at h3;simp at h3)]
theorem p6 (s:Shp) (pos:V2) (F:HL) (h:ShIn F s):Sp Tryz.prog 231 #[LN s,.agg #[vI pos.x,vI pos.y]] [] F (λ u H'=>u=.agg #[vI (eh s pos).x0,vI (eh s pos).y0,vI (eh s pos).x1,vI (eh s pos).y1] /\ H'=[]):=by
 cases h with
 | circle r A cap=>exact rM r A cap pos F
 | poly r l b cap h h3 h4 h5=>exact vd r l b cap pos F h h3 h4 h5
end Go.Proofs.YtgdcbiiopbpgaaaGreatDoor
