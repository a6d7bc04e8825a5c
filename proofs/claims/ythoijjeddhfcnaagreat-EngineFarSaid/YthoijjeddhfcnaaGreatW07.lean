import Derived.Test.YthoijjeddhfcnaaGreatW06
import Derived.Test.YthoijjeddhfcnaaGreatProg
import Derived.Shelf.Small.Bits
import Derived.Shelf.Strconv.Itoa0
set_option maxHeartbeats 4000000
set_option maxRecDepth 100000
set_option linter.unusedSimpArgs false
set_option linter.unusedVariables false
namespace Go.Proofs.YthoijjeddhfcnaaGreat
open Go.RowKit
abbrev w64 (n:Int):Int:=IntKind.i64.wrap n
structure V2 where (x y:Int)
structure Bx where (x0 y0 x1 y1:Int)
structure Mot where (px py vx vy inv:Int)
structure Con where (nx ny d:Int)
def clampI (n lo hi:Int):Int:=if n < lo then lo else if n > hi then hi else n
def fdivI (a b:Int):Int:=if b=0 then 0 else if (a.tmod b > 0 /\ b < 0) \/ (a.tmod b < 0 /\ b > 0) then w64 (w64 (a.tdiv b) - 1) else w64 (a.tdiv b)
def mulI (a b:Int):Int:=fdivI (w64 (a * b)) 1024
def mulDivI (a b c:Int):Int:=fdivI (w64 (a * b)) c
theorem clamp_any (n:Int) (lo:Int) (hi:Int)  (F:HL):Sp Tryz.prog 104 #[vI n,vI lo,vI hi] [] F (λ u H'=>u=vI (clampI n lo hi) /\ H'=[]):=by
 refine Sp.run Tryz.func104 rfl mn (A:=[]) (Ts:=[]) rfl λ w0=>?_
 refine RN.go 15 [] λ _=>RN.em (n < lo) 7 (λ h1=>?_) λ h1=>?_
 ·refine RN.go 7 [] λ _=>RN.ret [] [] [] (v:=vI lo) (H':=[]) ?_
  exact ⟨by unfold clampI;simp [*],rfl⟩
 ·refine RN.go 9 [] λ _=>RN.em (n > hi) 12 (λ h2=>?_) λ h2=>?_
  ·refine RN.go 7 [] λ _=>RN.ret [] [] [] (v:=vI hi) (H':=[]) ?_
   exact ⟨by unfold clampI;simp [*],rfl⟩
  ·refine RN.go 10 [] λ _=>RN.ret [] [] [] (v:=vI n) (H':=[]) ?_
   exact ⟨by unfold clampI;simp [*],rfl⟩
theorem floorDiv_any (a:Int) (b:Int)  (F:HL):Sp Tryz.prog 125 #[vI a,vI b] [] F (λ u H'=>u=vI (fdivI a b) /\ H'=[]):=by
 refine Sp.run Tryz.func125 rfl mn (A:=[]) (Ts:=[]) rfl λ w0=>?_
 refine RN.go 12 [] λ _=>RN.em (b=0) 8 (λ h1=>?_) λ h1=>?_
 ·refine RN.go 6 [] λ _=>RN.ret [] [] [] (v:=vI 0) (H':=[]) ?_
  exact ⟨by unfold fdivI;simp [*],rfl⟩
 ·refine RN.go 4 [] λ _=>RN.draw [] []<|RD.goP [] [0,1,3,4,2,5,6,7] [.dv,.dv] [b ≠ 0,b ≠ 0]<|RD.fin<|RN.go 13 [] λ _=>RN.em (a.tmod b > 0) 18 (λ h2=>?_) λ h2=>?_
  ·refine RN.go 6 [] λ _=>RN.em (b < 0) 15 (λ h3=>?_) λ h3=>?_
   ·refine RN.go 23 [] λ _=>RN.ret [] [] [] (v:=vI (IntKind.i64.wrap ((IntKind.i64.wrap (a.tdiv b)) - 1))) (H':=[]) ?_
    exact ⟨by unfold fdivI;simp [*],rfl⟩
   ·refine RN.go 8 [] λ _=>RN.em (a.tmod b < 0) 25 (λ h4=>?_) λ h4=>?_
    ·refine RN.go 6 [] λ _=>RN.em (b > 0) 22 (λ h5=>?_) λ h5=>?_
     ·refine RN.go 22 [] λ _=>RN.ret [] [] [] (v:=vI (IntKind.i64.wrap ((IntKind.i64.wrap (a.tdiv b)) - 1))) (H':=[]) ?_
      exact ⟨by unfold fdivI;simp [*],rfl⟩
     ·refine RN.go 15 [] λ _=>RN.ret [] [] [] (v:=vI (IntKind.i64.wrap (a.tdiv b))) (H':=[]) ?_
      exact ⟨by unfold fdivI;simp [*],rfl⟩
    ·refine RN.go 21 [] λ _=>RN.ret [] [] [] (v:=vI (IntKind.i64.wrap (a.tdiv b))) (H':=[]) ?_
     exact ⟨by unfold fdivI;simp [*],rfl⟩
  ·refine RN.go 14 [] λ _=>RN.em (a.tmod b < 0) 25 (λ h6=>?_) λ h6=>?_
   ·refine RN.go 6 [] λ _=>RN.em (b > 0) 22 (λ h7=>?_) λ h7=>?_
    ·refine RN.go 22 [] λ _=>RN.ret [] [] [] (v:=vI (IntKind.i64.wrap ((IntKind.i64.wrap (a.tdiv b)) - 1))) (H':=[]) ?_
     exact ⟨by unfold fdivI;simp [*],rfl⟩
    ·refine RN.go 15 [] λ _=>RN.ret [] [] [] (v:=vI (IntKind.i64.wrap (a.tdiv b))) (H':=[]) ?_
     exact ⟨by unfold fdivI;simp [*],rfl⟩
   ·refine RN.go 21 [] λ _=>RN.ret [] [] [] (v:=vI (IntKind.i64.wrap (a.tdiv b))) (H':=[]) ?_
    exact ⟨by unfold fdivI;simp [*],rfl⟩
theorem mul_any (a:Int) (b:Int)  (F:HL):Sp Tryz.prog 95 #[vI a,vI b] [] F (λ u H'=>u=vI (mulI a b) /\ H'=[]):=by
 refine Sp.run Tryz.func95 rfl mn (A:=[]) (Ts:=[]) rfl λ w0=>?_
 refine RN.go 10 [] λ _=>RN.cp (floorDiv_any (IntKind.i64.wrap (a * b)) 1024  _)<|RN.go 3 [] λ _=>?_
 exact RN.ret [] [] [] ⟨rfl,rfl⟩
theorem mulDiv_any (a:Int) (b:Int) (c:Int)  (F:HL):Sp Tryz.prog 93 #[vI a,vI b,vI c] [] F (λ u H'=>u=vI (mulDivI a b c) /\ H'=[]):=by
 refine Sp.run Tryz.func93 rfl mn (A:=[]) (Ts:=[]) rfl λ w0=>?_
 refine RN.go 11 [] λ _=>RN.cp (floorDiv_any (IntKind.i64.wrap (a * b)) c  _)<|RN.go 3 [] λ _=>?_
 exact RN.ret [] [] [] ⟨rfl,rfl⟩
end Go.Proofs.YthoijjeddhfcnaaGreat
namespace Go.Proofs
open Go.Shelf
def Tryz.lays125_ren:Go.Shelf.Ren:=⟨λ | 125=>134 | 128=>135 | 129=>136 | n=>n,λ | 46=>185 | 3=>3 | 51=>189 | 53=>191 | 4=>4 | 5=>5 | 9=>9 | n=>n,λ | n=>n⟩
theorem Tryz.lays125:Go.Proofs.Lays.n125 Tryz.prog Tryz.lays125_ren:={
  mixed:=by kernel_rfl
  f125:=Tryz.func134.trans (congrArg some (by kernel_rfl))
  f128:=Tryz.func135.trans (congrArg some (by kernel_rfl))
  f129:=Tryz.func136.trans (congrArg some (by kernel_rfl))
  t3:=Tryz.underlying3
  a3:=Tryz.isAgg3
  z3:=Tryz.sizeOf3
  v3:=Tryz.zeroValue3
  t4:=Tryz.underlying4
  a4:=Tryz.isAgg4
  z4:=Tryz.sizeOf4
  v4:=Tryz.zeroValue4
  t5:=Tryz.underlying5
  a5:=Tryz.isAgg5
  z5:=Tryz.sizeOf5
  v5:=Tryz.zeroValue5
  t9:=Tryz.underlying9
  a9:=Tryz.isAgg9
  z9:=Tryz.sizeOf9
  v9:=Tryz.zeroValue9
  t46:=Tryz.underlying185
  a46:=Tryz.isAgg185
  z46:=Tryz.sizeOf185
  v46:=Tryz.zeroValue185
  t51:=Tryz.underlying189
  a51:=Tryz.isAgg189
  z51:=Tryz.sizeOf189
  v51:=Tryz.zeroValue189
  t53:=Tryz.underlying191
  a53:=Tryz.isAgg191
  z53:=Tryz.sizeOf191
  v53:=Tryz.zeroValue191 }
theorem Tryz.bits_Len (x:Int) (w:World) (h0:0 <= x) (h1:x <= 18446744073709551615) :
    Calls Tryz.prog 134 #[.int .u64 x] w λ e w'=>e=.returned (.int .i64 (Lib.bitLen x.toNat)) /\ w'=w:=Any.bits_Len Tryz.lays125 x w h0 h1
end Go.Proofs
namespace Go.Proofs.YthoijjeddhfcnaaGreat
open Go.RowKit
abbrev w64u (n:Int):Int:=IntKind.u64.wrap n
theorem w64u_bd (n:Int):0 <= w64u n /\ w64u n <= 18446744073709551615:=by
 show 0 <= IntKind.u64.wrap n /\ IntKind.u64.wrap n <= _
 unfold IntKind.wrap
 simp [IntKind.signed,IntKind.bits]
 omega
abbrev blen (n:Int):Int:=(Lib.bitLen (w64u n).toNat:Int)
theorem blen_any (n:Int) (F:HL):Sp Tryz.prog 134 #[.int .u64 (w64u n)] [] F (λ u H'=>u=vI (blen n) /\ H'=[]) :=
 Sp.of_calls (λ w=>Tryz.bits_Len _ w (w64u_bd n).1 (w64u_bd n).2) F
theorem blen_bd (n:Int):0 <= blen n /\ blen n <= 64:=by
 have h:=w64u_bd n
 have:=Lib.bitLen_le (w64u n).toNat 64 (by omega) (by omega)
 unfold blen
 omega
def sqN (r:Int) (k:Nat):Int:=w64 ((BitVec.ofInt 64 r ||| BitVec.ofInt 64 (w64 (1 * 2 ^ min k 64))).toNat:Int)
def isqL (n:Int):Nat -> Int -> Int
 | 0,r=>r
 | k+1,r=>isqL n k (if sqN r k > w64 (n.tdiv (sqN r k)) then r else sqN r k)
def isqS (n:Int):Int:=w64 (w64 ((w64 (blen n+1)).tdiv 2) - 1)
def isqrtI (n:Int):Int:=if n <= 0 then 0 else isqL n (isqS n+1).toNat 0
theorem w64z (v:BitVec 64) (h:w64 (v.toNat:Int)=0):v=0#64:=by
 apply BitVec.eq_of_toNat_eq
 have h2:v.toNat < 18446744073709551616:=v.isLt
 generalize v.toNat=m at *
 rw [w64,IntKind.wrap_i64] at h
 simp
 omega
theorem sqN_ne (r:Int) {k:Nat} (hk:k < 40):sqN r k ≠ 0:=by
 intro h
 have hb:BitVec.ofInt 64 (w64 (1 * 2 ^ min k 64)) ≠ 0#64:=by
  have:∀ k < 40,BitVec.ofInt 64 (w64 (1 * 2 ^ min k 64)) ≠ 0#64:=by decide
  exact this k hk
 have h1:=w64z _ h
 clear h
 generalize BitVec.ofInt 64 (w64 (1 * 2 ^ min k 64))=b at *
 generalize BitVec.ofInt 64 r=a at *
 apply hb
 have:(a ||| b) &&& b=b:=by
  apply BitVec.eq_of_getLsbD_eq
  intro i hi
  simp
  intro h
  exact .inr h
 rw [h1] at this
 simpa using this.symm
theorem isqS_bd (n:Int):-1 <= isqS n /\ isqS n <= 31:=by
 have:=blen_bd n
 unfold isqS w64
 generalize blen n=l at *
 have e1:IntKind.i64.wrap (l+1)=l+1:=by rw [IntKind.wrap_i64];omega
 rw [e1,Int.tdiv_eq_ediv_of_nonneg (by omega)]
 have e2:IntKind.i64.wrap ((l+1) / 2)=(l+1) / 2:=by rw [IntKind.wrap_i64];omega
 rw [e2,IntKind.wrap_i64]
 omega
theorem w64_id {x:Int} (h:-9223372036854775808 <= x /\ x <= 9223372036854775807):w64 x=x:=by
 rw [w64,IntKind.wrap_i64];omega
theorem isq_next {n r s:Int} {k:Int} (h0:¬ s < 0) (h:isqL n (s+1).toNat r=k):isqL n s.toNat (if sqN r s.toNat > w64 (n.tdiv (sqN r s.toNat)) then r else sqN r s.toNat)=k:=by
 have e:(s+1).toNat=s.toNat+1:=by omega
 rw [e,isqL] at h
 exact h
theorem isqrt_any (n:Int)  (F:HL):Sp Tryz.prog 133 #[vI n] [] F (λ u H'=>u=vI (isqrtI n) /\ H'=[]):=by
 refine Sp.run Tryz.func133 rfl mn (A:=[]) (Ts:=[]) rfl λ w0=>?_
 refine RN.go 13 [] λ _=>RN.em (n <= 0) 7 (λ h1=>?_) λ h1=>?_
 ·refine RN.go 6 [] λ _=>RN.ret [] [] [] (v:=vI 0) (H':=[]) ?_
  refine ⟨?_,rfl⟩
  unfold isqrtI
  first | (simp [*];done) | (have e:(s+1).toNat=0:=by omega);(rw [e,isqL] at hI2);(simp [*])
 ·refine RN.go 16 [] λ _=>RN.cp (blen_any n _)<|RN.go 7 [] λ _=>RN.loop (σ:=Int × Int) (λ ⟨r,s⟩=>⟨[(0,vI n),(3,vI r),(4,vI s)],[],[],-1 <= s /\ s <= 31 /\ isqL n (s+1).toNat r=isqL n (isqS n+1).toNat 0,(s+1).toNat⟩) (0,isqS n) [] [] (⟨(isqS_bd n).1,(isqS_bd n).2,rfl⟩) ?_
  rintro ⟨r,s⟩ ⟨hI0,hI1,hI2⟩ mt3
  have hw:s >= 0 -> IntKind.i64.wrap (s - 1)=s - 1:=λ _=>w64_id (by omega)
  have hsub:(s - 1+1).toNat=s.toNat:=by rw [Int.sub_add_cancel]
  refine RN.go 7 [] λ _=>RN.em (s >= 0) 15 (λ h4=>?_) λ h4=>?_
  ·refine RN.goO 24 [.dv,.gen,.dv] (λ _=>[IntKind.i64.wrap ((BitVec.ofInt 64 r ||| BitVec.ofInt 64 (IntKind.i64.wrap (1 * 2 ^ min (s).toNat 64))).toNat:Int) ≠ 0,0 <= s]) (λ _=>(ac (sqN_ne r (by omega)) (ac (by omega) an))) λ _=>RN.em (IntKind.i64.wrap ((BitVec.ofInt 64 r ||| BitVec.ofInt 64 (IntKind.i64.wrap (1 * 2 ^ min (s).toNat 64))).toNat:Int) > IntKind.i64.wrap (n.tdiv (IntKind.i64.wrap ((BitVec.ofInt 64 r ||| BitVec.ofInt 64 (IntKind.i64.wrap (1 * 2 ^ min (s).toNat 64))).toNat:Int)))) 26 (λ h5=>?_) λ h5=>?_
   ·refine RN.go 10 [] λ _=>?_
    refine mt3 (r,IntKind.i64.wrap (s - 1)) [] [] ?_
    try dsimp only
    have hN:=isq_next (by omega) hI2
    rw [hw (by assumption),hsub]
    refine ⟨⟨by omega,by omega,?_⟩,by omega⟩
    simpa only [sqN, *,if_true,if_false] using hN
   ·refine RN.go 14 [] λ _=>?_
    refine mt3 (IntKind.i64.wrap ((BitVec.ofInt 64 r ||| BitVec.ofInt 64 (IntKind.i64.wrap (1 * 2 ^ min (s).toNat 64))).toNat:Int),IntKind.i64.wrap (s - 1)) [] [] ?_
    try dsimp only
    have hN:=isq_next (by omega) hI2
    rw [hw (by assumption),hsub]
    refine ⟨⟨by omega,by omega,?_⟩,by omega⟩
    simpa only [sqN, *,if_true,if_false] using hN
  ·refine RN.go 12 [] λ _=>RN.ret [] [] [] (v:=vI r) (H':=[]) ?_
   refine ⟨?_,rfl⟩
   unfold isqrtI
   first | (simp [*];done) | (have e:(s+1).toNat=0:=by omega);(rw [e,isqL] at hI2);(simp [*])
def vadd (a b:V2):V2:=⟨w64 (a.x+b.x),w64 (a.y+b.y)⟩
def vsub (a b:V2):V2:=⟨w64 (a.x - b.x),w64 (a.y - b.y)⟩
def vneg (a:V2):V2:=vsub ⟨0,0⟩ a
def vscale (a:V2) (f:Int):V2:=⟨mulI a.x f,mulI a.y f⟩
def vmuldiv (a:V2) (n d:Int):V2:=⟨mulDivI a.x n d,mulDivI a.y n d⟩
def floorI (n:Int):Int:=n.fdiv 1024
def vdot (a b:V2):Int:=floorI (w64 (w64 (a.x * b.x)+w64 (a.y * b.y)))
def vlen (a:V2):Int:=isqrtI (w64 (w64 (a.x * a.x)+w64 (a.y * a.y)))
def vzero (a:V2):Prop:=a.x=0 /\ a.y=0
instance (a:V2):Decidable (vzero a):=inferInstanceAs (Decidable (_ /\ _))
def vnorm (a:V2):V2:=if vzero a then a else vmuldiv a 1024 (vlen a)
theorem adds_any (m n:Int) (F:HL):Sp Tryz.prog 101 #[vI m,vI n] [] F (λ u H'=>u=vI (w64 (m+n)) /\ H'=[]):=by
 refine Sp.run Tryz.func101 rfl mn (A:=[]) (Ts:=[]) rfl λ w0=>?_
 refine RN.go 13 [] λ _=>?_
 exact RN.ret [] [] [] ⟨rfl,rfl⟩
theorem subs_any (m n:Int) (F:HL):Sp Tryz.prog 124 #[vI m,vI n] [] F (λ u H'=>u=vI (w64 (m - n)) /\ H'=[]):=by
 refine Sp.run Tryz.func124 rfl mn (A:=[]) (Ts:=[]) rfl λ w0=>?_
 refine RN.go 13 [] λ _=>?_
 exact RN.ret [] [] [] ⟨rfl,rfl⟩
theorem mulDiv1_any (m n d:Int) (b:Nat) (F:HL) (hb:(b,.lit [vI d] 3 (0,0)) ∈ F):Sp Tryz.prog 103 #[vI m,vI n,vP b 0] [] F (λ u H'=>u=vI (mulDivI m n d) /\ H'=[]):=by
 refine Sp.run Tryz.func103 rfl (mc hb mn) (A:=[]) (Ts:=[]) rfl λ w0=>?_
 refine RN.go 10 [.ro 0] λ _=>RN.cp (mulDiv_any m n d  _)<|RN.go 3 [] λ _=>?_
 exact RN.ret [] [] [] ⟨rfl,rfl⟩
theorem comb_add (a b:V2)  (F:HL):Sp Tryz.prog 100 #[.agg #[vI a.x,vI a.y],.agg #[vI b.x,vI b.y],.func (.func 101) #[] #[]] [] F (λ u H'=>u=.agg #[vI ((vadd a b).x),vI ((vadd a b).y)] /\ H'=[]):=by
 refine Sp.run Tryz.func100 rfl mn (A:=[]) (Ts:=[]) rfl λ w0=>?_
 refine RN.go 8 [] λ n1=>RN.draw [13] []<|RD.go [] [0,1,3,6,7,9,2,4,8,10] [.own 2,.own 1,.own 2,.own 1]<|RD.cp [] 5 (λ X_=>(adds_any a.x b.x _))<|RD.cp [] 11 (λ X_=>(adds_any a.y b.y _))<|RD.go [] [12] []<|RD.one 13 (RDO.ev [] [.own 0,.own 0] λ _=>?_)
 refine RD.fin<|RN.go 1 [] λ _=>?_
 exact RN.ret [.own 0,.own 0] [] [] ⟨rfl,rfl⟩
theorem comb_sub (a b:V2)  (F:HL):Sp Tryz.prog 100 #[.agg #[vI a.x,vI a.y],.agg #[vI b.x,vI b.y],.func (.func 124) #[] #[]] [] F (λ u H'=>u=.agg #[vI ((vsub a b).x),vI ((vsub a b).y)] /\ H'=[]):=by
 refine Sp.run Tryz.func100 rfl mn (A:=[]) (Ts:=[]) rfl λ w0=>?_
 refine RN.go 8 [] λ n1=>RN.draw [13] []<|RD.go [] [0,1,3,6,7,9,2,4,8,10] [.own 2,.own 1,.own 2,.own 1]<|RD.cp [] 5 (λ X_=>(subs_any a.x b.x _))<|RD.cp [] 11 (λ X_=>(subs_any a.y b.y _))<|RD.go [] [12] []<|RD.one 13 (RDO.ev [] [.own 0,.own 0] λ _=>?_)
 refine RD.fin<|RN.go 1 [] λ _=>?_
 exact RN.ret [.own 0,.own 0] [] [] ⟨rfl,rfl⟩
theorem comb_mul (a b:V2)  (F:HL):Sp Tryz.prog 100 #[.agg #[vI a.x,vI a.y],.agg #[vI b.x,vI b.y],.func (.func 95) #[] #[]] [] F (λ u H'=>u=.agg #[vI ((⟨mulI a.x b.x,mulI a.y b.y⟩:V2).x),vI ((⟨mulI a.x b.x,mulI a.y b.y⟩:V2).y)] /\ H'=[]):=by
 refine Sp.run Tryz.func100 rfl mn (A:=[]) (Ts:=[]) rfl λ w0=>?_
 refine RN.go 8 [] λ n1=>RN.draw [13] []<|RD.go [] [0,1,3,6,7,9,2,4,8,10] [.own 2,.own 1,.own 2,.own 1]<|RD.cp [] 5 (λ X_=>(mul_any a.x b.x  _))<|RD.cp [] 11 (λ X_=>(mul_any a.y b.y  _))<|RD.go [] [12] []<|RD.one 13 (RDO.ev [] [.own 0,.own 0] λ _=>?_)
 refine RD.fin<|RN.go 1 [] λ _=>?_
 exact RN.ret [.own 0,.own 0] [] [] ⟨rfl,rfl⟩
theorem comb_muldiv (a b:V2) (d:Int) (q:Nat) (F:HL) (hq:(q,.lit [vI d] 3 (0,0)) ∈ F):Sp Tryz.prog 100 #[.agg #[vI a.x,vI a.y],.agg #[vI b.x,vI b.y],.func (.func 103) #[] #[vP q 0]] [] F (λ u H'=>u=.agg #[vI ((⟨mulDivI a.x b.x d,mulDivI a.y b.y d⟩:V2).x),vI ((⟨mulDivI a.x b.x d,mulDivI a.y b.y d⟩:V2).y)] /\ H'=[]):=by
 refine Sp.run Tryz.func100 rfl (mc hq mn) (A:=[]) (Ts:=[]) rfl λ w0=>?_
 refine RN.go 8 [] λ n1=>RN.draw [13] []<|RD.go [] [0,1,3,6,7,9,2,4,8,10] [.own 2,.own 1,.own 2,.own 1]<|RD.cp [] 5 (λ X_=>(mulDiv1_any a.x b.x d q _ (ro_apX hq)))<|RD.cp [] 11 (λ X_=>(mulDiv1_any a.y b.y d q _ (ro_apX hq)))<|RD.go [] [12] []<|RD.one 13 (RDO.ev [] [.own 0,.own 0] λ _=>?_)
 refine RD.fin<|RN.go 1 [] λ _=>?_
 exact RN.ret [.own 0,.own 0] [] [] ⟨rfl,rfl⟩
theorem uniform_any (n:Int) (F:HL):Sp Tryz.prog 102 #[vI n] [] F (λ u H'=>u=.agg #[vI n,vI n] /\ H'=[]):=by
 refine Sp.run Tryz.func102 rfl mn (A:=[]) (Ts:=[]) rfl λ w0=>?_
 refine RN.go 13 [.own 0,.own 0] λ n1=>?_
 exact RN.ret [.own 0,.own 0] [] [] ⟨rfl,rfl⟩
theorem vadd_any (a:V2) (b:V2)  (F:HL):Sp Tryz.prog 63 #[.agg #[vI a.x,vI a.y],.agg #[vI b.x,vI b.y]] [] F (λ u H'=>u=.agg #[vI ((vadd a b).x),vI ((vadd a b).y)] /\ H'=[]):=by
 refine Sp.run Tryz.func63 rfl mn (A:=[]) (Ts:=[]) rfl λ w0=>?_
 refine RN.go 11 [.own 2,.own 2,.own 1,.own 1] λ n1=>RN.cp (comb_add a b _)<|RN.go 3 [.own 0,.own 0] λ _=>?_
 exact RN.ret [.own 0,.own 0] [] [] ⟨rfl,rfl⟩
theorem vsub_any (a:V2) (b:V2)  (F:HL):Sp Tryz.prog 89 #[.agg #[vI a.x,vI a.y],.agg #[vI b.x,vI b.y]] [] F (λ u H'=>u=.agg #[vI ((vsub a b).x),vI ((vsub a b).y)] /\ H'=[]):=by
 refine Sp.run Tryz.func89 rfl mn (A:=[]) (Ts:=[]) rfl λ w0=>?_
 refine RN.go 11 [.own 2,.own 2,.own 1,.own 1] λ n1=>RN.cp (comb_sub a b _)<|RN.go 3 [.own 0,.own 0] λ _=>?_
 exact RN.ret [.own 0,.own 0] [] [] ⟨rfl,rfl⟩
theorem vneg_any (a:V2)  (F:HL):Sp Tryz.prog 90 #[.agg #[vI a.x,vI a.y]] [] F (λ u H'=>u=.agg #[vI ((vneg a).x),vI ((vneg a).y)] /\ H'=[]):=by
 refine Sp.run Tryz.func90 rfl mn (A:=[]) (Ts:=[]) rfl λ w0=>?_
 refine RN.go 10 [.own 1,.own 1] λ n1=>RN.cp (vsub_any (⟨0,0⟩:V2) a  _)<|RN.go 3 [.own 0,.own 0] λ _=>?_
 exact RN.ret [.own 0,.own 0] [] [] ⟨rfl,rfl⟩
theorem vscale_any (a:V2) (f:Int)  (F:HL):Sp Tryz.prog 92 #[.agg #[vI a.x,vI a.y],vI f] [] F (λ u H'=>u=.agg #[vI ((vscale a f).x),vI ((vscale a f).y)] /\ H'=[]):=by
 refine Sp.run Tryz.func92 rfl mn (A:=[]) (Ts:=[]) rfl λ w0=>?_
 refine RN.go 7 [] λ n1=>RN.draw [4] []<|RD.go [] [0,1] [.own 1,.own 1]<|RD.cp [] 2 (λ X_=>(uniform_any f _))<|RD.cp [] 3 (λ X_=>(comb_mul a (⟨f,f⟩:V2) _))<|RD.one 4 (RDO.ev [] [.own 0,.own 0] λ _=>?_)
 refine RD.fin<|RN.go 1 [] λ _=>?_
 exact RN.ret [.own 0,.own 0] [] [] ⟨rfl,rfl⟩
theorem vmuldiv_any (a:V2) (n:Int) (d:Int)  (F:HL):Sp Tryz.prog 64 #[.agg #[vI a.x,vI a.y],vI n,vI d] [] F (λ u H'=>u=.agg #[vI ((vmuldiv a n d).x),vI ((vmuldiv a n d).y)] /\ H'=[]):=by
 refine Sp.run Tryz.func64 rfl mn (A:=[]) (Ts:=[]) rfl λ w0=>?_
 refine RN.go 8 [] λ n1=>RN.draw [5] []<|RD.go [] [0,1,3] [.own 2,.own 2]<|RD.cp [] 2 (λ X_=>(uniform_any n _))<|RD.cp [] 4 (λ X_=>(comb_muldiv a (⟨n,n⟩:V2) d (n1+1) _ (in_apX 1)))<|RD.one 5 (RDO.ev [] [.own 0,.own 0] λ _=>?_)
 refine RD.fin<|RN.go 1 [] λ _=>?_
 exact RN.ret [.own 0,.own 0] [] [] ⟨rfl,rfl⟩
theorem floor_any (n:Int)  (F:HL):Sp Tryz.prog 123 #[vI n] [] F (λ u H'=>u=vI (floorI n) /\ H'=[]):=by
 refine Sp.run Tryz.func123 rfl mn (A:=[]) (Ts:=[]) rfl λ w0=>?_
 refine RN.go 12 [] λ _=>?_
 exact RN.ret [] [] [] ⟨rfl,rfl⟩
theorem vdot_any (a:V2) (b:V2)  (F:HL):Sp Tryz.prog 88 #[.agg #[vI a.x,vI a.y],.agg #[vI b.x,vI b.y]] [] F (λ u H'=>u=vI (vdot a b) /\ H'=[]):=by
 refine Sp.run Tryz.func88 rfl mn (A:=[]) (Ts:=[]) rfl λ w0=>?_
 refine RN.go 20 [.own 1,.own 0,.own 1,.own 0] λ n1=>RN.cp (floor_any (IntKind.i64.wrap ((IntKind.i64.wrap (a.x * b.x))+(IntKind.i64.wrap (a.y * b.y))))  _)<|RN.go 3 [] λ _=>?_
 exact RN.ret [] [] [] ⟨rfl,rfl⟩
theorem vlen_any (a:V2)  (F:HL):Sp Tryz.prog 132 #[.agg #[vI a.x,vI a.y]] [] F (λ u H'=>u=vI (vlen a) /\ H'=[]):=by
 refine Sp.run Tryz.func132 rfl mn (A:=[]) (Ts:=[]) rfl λ w0=>?_
 refine RN.go 19 [.own 0,.own 0,.own 0,.own 0] λ n1=>RN.cp (isqrt_any (IntKind.i64.wrap ((IntKind.i64.wrap (a.x * a.x))+(IntKind.i64.wrap (a.y * a.y))))  _)<|RN.go 3 [] λ _=>?_
 exact RN.ret [] [] [] ⟨rfl,rfl⟩
theorem vnorm_any (a:V2)  (F:HL):Sp Tryz.prog 129 #[.agg #[vI a.x,vI a.y]] [] F (λ u H'=>u=.agg #[vI ((vnorm a).x),vI ((vnorm a).y)] /\ H'=[]):=by
 refine Sp.run Tryz.func129 rfl mn (A:=[]) (Ts:=[]) rfl λ w0=>?_
 refine RN.go 14 [.own 1,.own 1,.sq] λ n1=>RN.eb ((decide (a.x=0) && (decide (a.y=0) && true))) 5 (λ h2=>?_) λ h2=>?_
 ·refine RN.go 7 [.own 1,.own 1,.own 0,.own 0] λ _=>RN.ret [.own 0,.own 0] [] [] (v:=.agg #[vI a.x,vI a.y]) (H':=[]) ?_
  refine ⟨?_,rfl⟩
  unfold vnorm
  first | rw [if_pos (by simpa [vzero] using h2)] | rw [if_neg (by simpa [vzero] using h2)]
 ·refine RN.go 4 [] λ _=>RN.draw [4] []<|RD.go [] [0,1] [.own 1,.own 1,.own 1,.own 1]<|RD.cp [] 2 (λ X_=>(vlen_any a  _))<|RD.cp [] 3 (λ X_=>(vmuldiv_any a 1024 (vlen a)  _))<|RD.one 4 (RDO.ev [] [.own 0,.own 0] λ _=>?_)
  refine RD.fin<|RN.go 1 [] λ _=>RN.ret [.own 0,.own 0] [] [] (v:=.agg #[vI ((vmuldiv a 1024 (vlen a)).x),vI ((vmuldiv a 1024 (vlen a)).y)]) (H':=[]) ?_
  refine ⟨?_,rfl⟩
  unfold vnorm
  first | rw [if_pos (by simpa [vzero] using h2)] | rw [if_neg (by simpa [vzero] using h2)]
structure Shp where (r:Int) (poly:List V2) (A:Option Addr) (cap:Nat)
abbrev shV (s:Shp):Value:=.agg #[vI s.r,.slice s.A s.poly.length s.cap]
def vrow (l:List V2):Nat -> Nat -> Value:=λ i k=>match k with | 0=>vI (l.getD i ⟨0,0⟩).x | _=>vI (l.getD i ⟨0,0⟩).y
inductive ShIn (F:HL):Shp -> Prop
 | circle (r:Int) (A:Option Addr) (cap:Nat):ShIn F ⟨r,[],A,cap⟩
 | poly (r:Int) (l:List V2) (b cap:Nat) (h:(b,.rows 2 cap (vrow l) 30 (0,0)) ∈ F) (h3:3 <= l.length) (h4:l.length <= cap) (h5:l.length <= 1000000):ShIn F ⟨r,l,some ⟨b,0,none⟩,cap⟩
theorem ShIn.mono {F F':HL} {s:Shp} (h:ShIn F s) (hs:∀ x ∈ F,x ∈ F'):ShIn F' s:=by
 cases h with
 | circle r A cap=>exact .circle r A cap
 | poly r l b cap h h3 h4 h5=>exact .poly r l b cap (hs _ h) h3 h4 h5
def circ (s:Shp):Prop:=s.poly=[]
instance (s:Shp):Decidable (circ s):=decidable_of_iff (s.poly.isEmpty=true) (by simp [circ])
def bstep (b:Bx) (c:V2):Bx:=⟨if c.x < b.x0 then c.x else b.x0,if c.y < b.y0 then c.y else b.y0,if c.x > b.x1 then c.x else b.x1,if c.y > b.y1 then c.y else b.y1⟩
def bfold (pos:V2) (l:List V2):Nat -> Bx
 | 0=>⟨(vadd pos (l.getD 0 ⟨0,0⟩)).x,(vadd pos (l.getD 0 ⟨0,0⟩)).y,(vadd pos (l.getD 0 ⟨0,0⟩)).x,(vadd pos (l.getD 0 ⟨0,0⟩)).y⟩
 | k+1=>bstep (bfold pos l k) (vadd pos (l.getD (1+k) ⟨0,0⟩))
def bounds (s:Shp) (pos:V2):Bx:=if circ s then ⟨w64 (pos.x - s.r),w64 (pos.y - s.r),w64 (pos.x+s.r),w64 (pos.y+s.r)⟩ else bfold pos s.poly (s.poly.length - 1)
def meetP (a b c d:Int):Prop:=a <= d /\ c <= b
instance (a b c d:Int):Decidable (meetP a b c d):=inferInstanceAs (Decidable (_ /\ _))
def ovl (a b:Bx):Prop:=meetP a.x0 a.x1 b.x0 b.x1 /\ meetP a.y0 a.y1 b.y0 b.y1
instance (a b:Bx):Decidable (ovl a b):=inferInstanceAs (Decidable (_ /\ _))
theorem sc_any (r:Int) (A:Option Addr) (n cap:Nat) (F:HL):Sp Tryz.prog 85 #[.agg #[vI r,.slice A n cap]] [] F (λ u H'=>u=.bool (decide ((n:Int)=0)) /\ H'=[]):=by
 refine Sp.run Tryz.func85 rfl mn (A:=[]) (Ts:=[]) rfl λ w0=>?_
 refine RN.go 15 [.own 0] λ n1=>?_
 exact RN.ret [] [] [] ⟨rfl,rfl⟩
theorem cc_any (r:Int) (A:Option Addr) (n cap:Nat) (F:HL):Sp Tryz.prog 120 #[.agg #[vI r,.slice A n cap]] [] F (λ u H'=>u=.bool (decide ((n:Int)=0)) /\ H'=[]):=by
 refine Sp.run Tryz.func120 rfl mn (A:=[]) (Ts:=[]) rfl λ w0=>?_
 refine RN.go 15 [.own 0] λ n1=>?_
 exact RN.ret [] [] [] ⟨rfl,rfl⟩
theorem meet_any (a:Int) (b:Int) (c:Int) (d:Int)  (F:HL):Sp Tryz.prog 60 #[vI a,vI b,vI c,vI d] [] F (λ u H'=>u=.bool (decide (meetP a b c d)) /\ H'=[]):=by
 refine Sp.run Tryz.func60 rfl mn (A:=[]) (Ts:=[]) rfl λ w0=>?_
 refine RN.go 11 [] λ _=>RN.em (a <= d) 12 (λ h1=>?_) λ h1=>?_
 ·refine RN.go 7 [] λ _=>RN.ret [] [] [] (v:=.bool (decide (c <= b))) (H':=[]) ?_
  exact ⟨by simp [meetP, *],rfl⟩
 ·refine RN.go 7 [] λ _=>RN.ret [] [] [] (v:=.bool false) (H':=[]) ?_
  exact ⟨by simp [meetP, *],rfl⟩
theorem ovl_any (a:Bx) (b:Bx)  (F:HL):Sp Tryz.prog 41 #[.agg #[vI a.x0,vI a.y0,vI a.x1,vI a.y1],.agg #[vI b.x0,vI b.y0,vI b.x1,vI b.y1]] [] F (λ u H'=>u=.bool (decide (ovl a b)) /\ H'=[]):=by
 refine Sp.run Tryz.func41 rfl mn (A:=[]) (Ts:=[]) rfl λ w0=>?_
 refine RN.go 17 [.own 1,.own 1,.own 0,.own 0] λ n1=>RN.cp (meet_any a.x0 a.x1 b.x0 b.x1  _)<|RN.go 1 [] λ _=>RN.em (meetP a.x0 a.x1 b.x0 b.x1) 14 (λ h2=>?_) λ h2=>?_
 ·refine RN.go 8 [.own 1,.own 1,.own 0,.own 0] λ _=>RN.cp (meet_any a.y0 a.y1 b.y0 b.y1  _)<|RN.go 4 [] λ _=>RN.ret [] [] [] (v:=.bool (decide (meetP a.y0 a.y1 b.y0 b.y1))) (H':=[]) ?_
  exact ⟨by simp [ovl, *],rfl⟩
 ·refine RN.go 13 [] λ _=>RN.ret [] [] [] (v:=.bool false) (H':=[]) ?_
  exact ⟨by simp [ovl, *],rfl⟩
theorem bounds_circle (r:Int) (A:Option Addr) (cap:Nat) (pos:V2) (F:HL):Sp Tryz.prog 59 #[.agg #[vI r,.slice A 0 cap],.agg #[vI pos.x,vI pos.y]] [] F (λ u H'=>u=.agg #[vI ((bounds ⟨r,[],A,cap⟩ pos).x0),vI ((bounds ⟨r,[],A,cap⟩ pos).y0),vI ((bounds ⟨r,[],A,cap⟩ pos).x1),vI ((bounds ⟨r,[],A,cap⟩ pos).y1)] /\ H'=[]):=by
 refine Sp.run Tryz.func59 rfl mn (A:=[]) (Ts:=[]) rfl λ w0=>?_
 refine RN.go 11 [.own 2,.own 2] λ n1=>RN.cp (sc_any r A 0 cap _)<|RN.go 29 [.own 1,.own 2,.own 1,.own 2,.own 1,.own 2,.own 1,.own 2,.own 0,.own 0,.own 0,.own 0] λ _=>?_
 exact RN.ret [.own 0,.own 0,.own 0,.own 0] [] [] ⟨rfl,rfl⟩
theorem bounds_poly (r:Int) (l:List V2) (b cap:Nat) (pos:V2) (F:HL) (hb:(b,.rows 2 cap (vrow l) 30 (0,0)) ∈ F) (h3:3 <= l.length) (h4:l.length <= cap) (h5:l.length <= 1000000):Sp Tryz.prog 59 #[.agg #[vI r,vS b 0 l.length cap],.agg #[vI pos.x,vI pos.y]] [] F (λ u H'=>u=.agg #[vI ((bounds ⟨r,l,some ⟨b,0,none⟩,cap⟩ pos).x0),vI ((bounds ⟨r,l,some ⟨b,0,none⟩,cap⟩ pos).y0),vI ((bounds ⟨r,l,some ⟨b,0,none⟩,cap⟩ pos).x1),vI ((bounds ⟨r,l,some ⟨b,0,none⟩,cap⟩ pos).y1)] /\ H'=[]):=by
 refine Sp.run Tryz.func59 rfl (mc hb mn) (A:=[]) (Ts:=[]) rfl λ w0=>?_
 refine RN.go 11 [.own 2,.own 2] λ n1=>RN.cp (sc_any r (some ⟨b,0,none⟩) l.length cap _)<|RN.go 2 [] λ _=>RN.fx 11 (decide_eq_false (show ¬ ((l.length:Int)=0) by omega))<|RN.go 4 [] λ _=>RN.draw [7] []<|RD.goP [] [0,1,2,3,4] [.own 1,.own 1,.own 2,.ix 0,.rorow 0 0 0,.rorow 0 0 1] [((0+0 * 2)+1)=0 * 2+1 /\ 0 < cap,(0+0 * 2)=0 * 2+0 /\ 0 < cap,0=((0:Nat):Int) /\ 0 < l.length]<|RD.cp [] 5 (λ X_=>(vadd_any pos (l.getD 0 ⟨0,0⟩)  _))<|RD.one 6 (RDO.ev [] [] λ n2=>?_)
 refine RD.one 7 (RDO.ev [] [.own 0,.own 0] λ _=>?_)
 refine RD.fin<|RN.goP 27 (ow 0 8++[.own 4,.sl 1 l.length false]) [1=((1:Nat):Int) /\ l.length=l.length /\ 1 <= l.length /\ l.length <= cap /\ cap ≠ 1] λ n3=>RN.loop (σ:=Nat) (λ k=>⟨[(3,vP (n1+1) 0),(4,vP (n1+2) 0),(6,vP (n3+0) 0),(50,vS b 2 (l.length - 1) (cap - 1)),(51,vI (((l.length - 1):Nat):Int)),(52,vI (k:Int))],[((n3+0),.lit [vI ((bfold pos l k).x0),vI ((bfold pos l k).y0),vI ((bfold pos l k).x1),vI ((bfold pos l k).y1)] 25 (0,0)),((n2+0),.lit [vI ((vadd pos (l.getD 0 ⟨0,0⟩)).x),vI ((vadd pos (l.getD 0 ⟨0,0⟩)).y)] 30 (0,0)),((n1+2),.lit [vI 0,vI 0,vI 0,vI 0] 25 (0,0)),((n1+1),.lit [vI pos.x,vI pos.y] 30 (0,0)),((n1+0),.lit [vI r,vS b 0 l.length cap] 35 (0,0))],[],k <= l.length - 1,l.length - k⟩) 0 [0,1,2,3,4] [] (Nat.zero_le _) ?_
 rintro k hI4 mt5
 refine RN.go 6 [] λ _=>RN.em ((k:Int) < (((l.length - 1):Nat):Int)) 53 (λ h6=>?_) λ h6=>?_
 ·refine RN.goP 17 [.ix k,.rorow 0 (1+k) 0,.rorow 0 (1+k) 1,.own 0,.own 0,.own 4,.own 4,.own 0,.own 0] [((2+k * 2)+1)=(1+k) * 2+1 /\ (1+k) < cap,(2+k * 2)=(1+k) * 2+0 /\ (1+k) < cap,(k:Int)=((k:Nat):Int) /\ k < (l.length - 1)] λ n7=>RN.cp (vadd_any pos (l.getD (1+k) ⟨0,0⟩)  _)<|RN.go 5 [.own 0,.own 0] λ n8=>RN.draw [11,13] [0,1,3,4,5,6]<|RD.go [0,1,3,4,5,6] [0,2,5,7,1,3,6,8,4,9,10] [.own 2,.own 0,.own 2,.ro 0]<|RD.one 11 (RDO.ev [0,1,3,4,5,6] [.own 2] λ _=>?_)
  refine RD.go [0,1,3,4,5,6] [12] []<|RD.one 13 (RDO.ev [0,1,3,4,5,6] [.own 2] λ _=>?_)
  refine RD.fin<|RN.go 1 [] λ _=>RN.draw [11,13] [0,1,3,4,5,6]<|RD.go [0,1,3,4,5,6] [0,2,5,7,1,3,6,8,4,9,10] [.own 2,.own 0,.own 2,.ro 0]<|RD.one 11 (RDO.ev [0,1,3,4,5,6] [.own 2] λ _=>?_)
  refine RD.go [0,1,3,4,5,6] [12] []<|RD.one 13 (RDO.ev [0,1,3,4,5,6] [.own 2] λ _=>?_)
  refine RD.fin<|RN.goP 6 [.nw] [I64 ((k:Int)+1)] λ _=>?_
  refine mt5 (k+1) [2,3,4,5,6] [] ?_
  try dsimp only
  refine ⟨by omega,by omega⟩
 ·refine RN.go 12 [.own 0,.own 0,.own 0,.own 0,.own 2,.own 2,.own 2,.own 2] λ _=>RN.ret [.own 2,.own 2,.own 2,.own 2] [] [] (v:=.agg #[vI ((bfold pos l k).x0),vI ((bfold pos l k).y0),vI ((bfold pos l k).x1),vI ((bfold pos l k).y1)]) (H':=[]) ?_
  have ek:k=l.length - 1:=by omega
  subst ek
  refine ⟨?_,rfl⟩
  unfold bounds
  rw [if_neg (by intro e;simp [circ] at e;rw [e] at h3;simp at h3)]
theorem bounds_any (s:Shp) (pos:V2) (F:HL) (h:ShIn F s):Sp Tryz.prog 59 #[shV s,.agg #[vI pos.x,vI pos.y]] [] F (λ u H'=>u=.agg #[vI (bounds s pos).x0,vI (bounds s pos).y0,vI (bounds s pos).x1,vI (bounds s pos).y1] /\ H'=[]):=by
 cases h with
 | circle r A cap=>exact bounds_circle r A cap pos F
 | poly r l b cap h h3 h4 h5=>exact bounds_poly r l b cap pos F h h3 h4 h5
end Go.Proofs.YthoijjeddhfcnaaGreat
