import Derived.Test.YtkhifpbokgabbaaGreatDoorW06
import Derived.Test.YtkhifpbokgabbaaGreatDoorProg
import Derived.Shelf.Small.Bits
import Derived.Shelf.Strconv.Itoa0
set_option maxHeartbeats 4000000
set_option maxRecDepth 100000
set_option linter.unusedSimpArgs false
set_option linter.unusedVariables false
namespace Go.Proofs.YtkhifpbokgabbaaGreatDoor
open Go.RowKit
abbrev w64 (n:Int):Int:=IntKind.i64.wrap n
structure V2 where (x y:Int)
structure Bx where (x0 y0 x1 y1:Int)
structure Mot where (px py vx vy inv:Int)
structure Con where (nx ny d:Int)
def clampI (n lo hi:Int):Int:=if n < lo then lo else if n > hi then hi else n
def fdivI (a b:Int):Int:=if b=0 then 0 else if (a.tmod b > 0 /\ b < 0) \/ (a.tmod b < 0 /\ b > 0) then w64 (w64 (a.tdiv b) - 1) else w64 (a.tdiv b)
def mulI (a b:Int):Int:=fdivI (w64 (a * b)) 1024
def mulDivI (a b c:Int):Int:=fdivI (w64 (a * b)) c
theorem clamp_any (n:Int) (lo:Int) (hi:Int)  (F:HL):Sp Tryz.prog 52 #[vI n,vI lo,vI hi] [] F (λ u H'=>u=vI (clampI n lo hi) /\ H'=[]):=by
 refine Sp.run Tryz.func52 rfl mn (A:=[]) (Ts:=[]) rfl λ w0=>?_
 refine RN.go 15 [] λ _=>RN.em (n < lo) 7 (λ h1=>?_) λ h1=>?_
 ·refine RN.go 7 [] λ _=>RN.ret [] [] [] (v:=vI lo) (H':=[]) ?_
  exact ⟨by unfold clampI;simp [*],rfl⟩
 ·refine RN.go 9 [] λ _=>RN.em (n > hi) 12 (λ h2=>?_) λ h2=>?_
  ·refine RN.go 7 [] λ _=>RN.ret [] [] [] (v:=vI hi) (H':=[]) ?_
   exact ⟨by unfold clampI;simp [*],rfl⟩
  ·refine RN.go 10 [] λ _=>RN.ret [] [] [] (v:=vI n) (H':=[]) ?_
   exact ⟨by unfold clampI;simp [*],rfl⟩
theorem floorDiv_any (a:Int) (b:Int)  (F:HL):Sp Tryz.prog 117 #[vI a,vI b] [] F (λ u H'=>u=vI (fdivI a b) /\ H'=[]):=by
 refine Sp.run Tryz.func117 rfl mn (A:=[]) (Ts:=[]) rfl λ w0=>?_
 refine RN.go 12 [] λ _=>RN.em (b=0) 8 (λ h1=>?_) λ h1=>?_
 ·refine RN.go 6 [] λ _=>RN.ret [] [] [] (v:=vI 0) (H':=[]) ?_
  exact ⟨by unfold fdivI;simp [*],rfl⟩
 ·refine RN.go 4 [] λ _=>RN.draw [] []<|RD.goP [] [0,1,3,4,2,5,6,7] [.dv,.dv] [b ≠ 0,b ≠ 0]<|RD.fin<|RN.go 13 [] λ _=>RN.em (a.tmod b > 0) 18 (λ h2=>?_) λ h2=>?_
  ·refine RN.go 6 [] λ _=>RN.em (b < 0) 15 (λ h3=>?_) λ h3=>?_
   ·refine RN.go 23 [] λ _=>RN.ret [] [] [] (v:=vI (IntKind.i64.wrap ((IntKind.i64.wrap (a.tdiv b)) - 1))) (H':=[]) ?_
    exact ⟨by unfold fdivI;simp [*],rfl⟩
   ·refine RN.go 8 [] λ _=>RN.em (a.tmod b < 0) 25 (λ h4=>?_) λ h4=>?_
    ·refine RN.go 6 [] λ _=>RN.em (b > 0) 22 (λ h5=>?_) λ h5=>?_
     ·refine RN.go 22 [] λ _=>RN.ret [] [] [] (v:=vI (IntKind.i64.wrap ((IntKind.i64.wrap (a.tdiv b)) - 1))) (H':=[]) ?_
      exact ⟨by unfold fdivI;simp [*],rfl⟩
     ·refine RN.go 15 [] λ _=>RN.ret [] [] [] (v:=vI (IntKind.i64.wrap (a.tdiv b))) (H':=[]) ?_
      exact ⟨by unfold fdivI;simp [*],rfl⟩
    ·refine RN.go 21 [] λ _=>RN.ret [] [] [] (v:=vI (IntKind.i64.wrap (a.tdiv b))) (H':=[]) ?_
     exact ⟨by unfold fdivI;simp [*],rfl⟩
  ·refine RN.go 14 [] λ _=>RN.em (a.tmod b < 0) 25 (λ h6=>?_) λ h6=>?_
   ·refine RN.go 6 [] λ _=>RN.em (b > 0) 22 (λ h7=>?_) λ h7=>?_
    ·refine RN.go 22 [] λ _=>RN.ret [] [] [] (v:=vI (IntKind.i64.wrap ((IntKind.i64.wrap (a.tdiv b)) - 1))) (H':=[]) ?_
     exact ⟨by unfold fdivI;simp [*],rfl⟩
    ·refine RN.go 15 [] λ _=>RN.ret [] [] [] (v:=vI (IntKind.i64.wrap (a.tdiv b))) (H':=[]) ?_
     exact ⟨by unfold fdivI;simp [*],rfl⟩
   ·refine RN.go 21 [] λ _=>RN.ret [] [] [] (v:=vI (IntKind.i64.wrap (a.tdiv b))) (H':=[]) ?_
    exact ⟨by unfold fdivI;simp [*],rfl⟩
theorem mul_any (a:Int) (b:Int)  (F:HL):Sp Tryz.prog 84 #[vI a,vI b] [] F (λ u H'=>u=vI (mulI a b) /\ H'=[]):=by
 refine Sp.run Tryz.func84 rfl mn (A:=[]) (Ts:=[]) rfl λ w0=>?_
 refine RN.go 10 [] λ _=>RN.cp (floorDiv_any (IntKind.i64.wrap (a * b)) 1024  _)<|RN.go 3 [] λ _=>?_
 exact RN.ret [] [] [] ⟨rfl,rfl⟩
theorem mulDiv_any (a:Int) (b:Int) (c:Int)  (F:HL):Sp Tryz.prog 126 #[vI a,vI b,vI c] [] F (λ u H'=>u=vI (mulDivI a b c) /\ H'=[]):=by
 refine Sp.run Tryz.func126 rfl mn (A:=[]) (Ts:=[]) rfl λ w0=>?_
 refine RN.go 11 [] λ _=>RN.cp (floorDiv_any (IntKind.i64.wrap (a * b)) c  _)<|RN.go 3 [] λ _=>?_
 exact RN.ret [] [] [] ⟨rfl,rfl⟩
end Go.Proofs.YtkhifpbokgabbaaGreatDoor
namespace Go.Proofs
open Go.Shelf
def Tryz.lays125_ren:Go.Shelf.Ren:=⟨λ | 125=>44 | 128=>77 | 129=>78 | n=>n,λ | 46=>117 | 3=>3 | 51=>150 | 53=>152 | 4=>4 | 5=>5 | 9=>9 | n=>n,λ | n=>n⟩
theorem Tryz.lays125:Go.Proofs.Lays.n125 Tryz.prog Tryz.lays125_ren:={
  mixed:=by kernel_rfl
  f125:=Tryz.func44.trans (congrArg some (by kernel_rfl))
  f128:=Tryz.func77.trans (congrArg some (by kernel_rfl))
  f129:=Tryz.func78.trans (congrArg some (by kernel_rfl))
  t3:=Tryz.underlying3
  a3:=Tryz.isAgg3
  z3:=Tryz.sizeOf3
  v3:=Tryz.zeroValue3
  t4:=Tryz.underlying4
  a4:=Tryz.isAgg4
  z4:=Tryz.sizeOf4
  v4:=Tryz.zeroValue4
  t5:=Tryz.underlying5
  a5:=Tryz.isAgg5
  z5:=Tryz.sizeOf5
  v5:=Tryz.zeroValue5
  t9:=Tryz.underlying9
  a9:=Tryz.isAgg9
  z9:=Tryz.sizeOf9
  v9:=Tryz.zeroValue9
  t46:=Tryz.underlying117
  a46:=Tryz.isAgg117
  z46:=Tryz.sizeOf117
  v46:=Tryz.zeroValue117
  t51:=Tryz.underlying150
  a51:=Tryz.isAgg150
  z51:=Tryz.sizeOf150
  v51:=Tryz.zeroValue150
  t53:=Tryz.underlying152
  a53:=Tryz.isAgg152
  z53:=Tryz.sizeOf152
  v53:=Tryz.zeroValue152 }
theorem Tryz.bits_Len (x:Int) (w:World) (h0:0 <= x) (h1:x <= 18446744073709551615) :
    Calls Tryz.prog 44 #[.int .u64 x] w λ e w'=>e=.returned (.int .i64 (Lib.bitLen x.toNat)) /\ w'=w:=Any.bits_Len Tryz.lays125 x w h0 h1
end Go.Proofs
namespace Go.Proofs.YtkhifpbokgabbaaGreatDoor
open Go.RowKit
abbrev w64u (n:Int):Int:=IntKind.u64.wrap n
theorem w64u_bd (n:Int):0 <= w64u n /\ w64u n <= 18446744073709551615:=by
 show 0 <= IntKind.u64.wrap n /\ IntKind.u64.wrap n <= _
 unfold IntKind.wrap
 simp [IntKind.signed,IntKind.bits]
 omega
abbrev blen (n:Int):Int:=(Lib.bitLen (w64u n).toNat:Int)
theorem blen_any (n:Int) (F:HL):Sp Tryz.prog 44 #[.int .u64 (w64u n)] [] F (λ u H'=>u=vI (blen n) /\ H'=[]) :=
 Sp.of_calls (λ w=>Tryz.bits_Len _ w (w64u_bd n).1 (w64u_bd n).2) F
theorem blen_bd (n:Int):0 <= blen n /\ blen n <= 64:=by
 have h:=w64u_bd n
 have:=Lib.bitLen_le (w64u n).toNat 64 (by omega) (by omega)
 unfold blen
 omega
def sqN (r:Int) (k:Nat):Int:=w64 ((BitVec.ofInt 64 r ||| BitVec.ofInt 64 (w64 (1 * 2 ^ min k 64))).toNat:Int)
def isqL (n:Int):Nat -> Int -> Int
 | 0,r=>r
 | k+1,r=>isqL n k (if sqN r k > w64 (n.tdiv (sqN r k)) then r else sqN r k)
def isqS (n:Int):Int:=w64 (w64 ((w64 (blen n+1)).tdiv 2) - 1)
def isqrtI (n:Int):Int:=if n <= 0 then 0 else isqL n (isqS n+1).toNat 0
theorem w64z (v:BitVec 64) (h:w64 (v.toNat:Int)=0):v=0#64:=by
 apply BitVec.eq_of_toNat_eq
 have h2:v.toNat < 18446744073709551616:=v.isLt
 generalize v.toNat=m at *
 rw [w64,IntKind.wrap_i64] at h
 simp
 omega
theorem sqN_ne (r:Int) {k:Nat} (hk:k < 40):sqN r k ≠ 0:=by
 intro h
 have hb:BitVec.ofInt 64 (w64 (1 * 2 ^ min k 64)) ≠ 0#64:=by
  have:∀ k < 40,BitVec.ofInt 64 (w64 (1 * 2 ^ min k 64)) ≠ 0#64:=by decide
  exact this k hk
 have h1:=w64z _ h
 clear h
 generalize BitVec.ofInt 64 (w64 (1 * 2 ^ min k 64))=b at *
 generalize BitVec.ofInt 64 r=a at *
 apply hb
 have:(a ||| b) &&& b=b:=by
  apply BitVec.eq_of_getLsbD_eq
  intro i hi
  simp
  intro h
  exact .inr h
 rw [h1] at this
 simpa using this.symm
theorem isqS_bd (n:Int):-1 <= isqS n /\ isqS n <= 31:=by
 have:=blen_bd n
 unfold isqS w64
 generalize blen n=l at *
 have e1:IntKind.i64.wrap (l+1)=l+1:=by rw [IntKind.wrap_i64];omega
 rw [e1,Int.tdiv_eq_ediv_of_nonneg (by omega)]
 have e2:IntKind.i64.wrap ((l+1) / 2)=(l+1) / 2:=by rw [IntKind.wrap_i64];omega
 rw [e2,IntKind.wrap_i64]
 omega
theorem w64_id {x:Int} (h:-9223372036854775808 <= x /\ x <= 9223372036854775807):w64 x=x:=by
 rw [w64,IntKind.wrap_i64];omega
theorem isq_next {n r s:Int} {k:Int} (h0:¬ s < 0) (h:isqL n (s+1).toNat r=k):isqL n s.toNat (if sqN r s.toNat > w64 (n.tdiv (sqN r s.toNat)) then r else sqN r s.toNat)=k:=by
 have e:(s+1).toNat=s.toNat+1:=by omega
 rw [e,isqL] at h
 exact h
theorem isqrt_any (n:Int)  (F:HL):Sp Tryz.prog 185 #[vI n] [] F (λ u H'=>u=vI (isqrtI n) /\ H'=[]):=by
 refine Sp.run Tryz.func185 rfl mn (A:=[]) (Ts:=[]) rfl λ w0=>?_
 refine RN.go 13 [] λ _=>RN.em (n <= 0) 7 (λ h1=>?_) λ h1=>?_
 ·refine RN.go 6 [] λ _=>RN.ret [] [] [] (v:=vI 0) (H':=[]) ?_
  refine ⟨?_,rfl⟩
  unfold isqrtI
  first | (simp [*];done) | (have e:(s+1).toNat=0:=by omega);(rw [e,isqL] at hI2);(simp [*])
 ·refine RN.go 16 [] λ _=>RN.cp (blen_any n _)<|RN.go 7 [] λ _=>RN.loop (σ:=Int × Int) (λ ⟨r,s⟩=>⟨[(0,vI n),(3,vI r),(4,vI s)],[],[],-1 <= s /\ s <= 31 /\ isqL n (s+1).toNat r=isqL n (isqS n+1).toNat 0,(s+1).toNat⟩) (0,isqS n) [] [] (⟨(isqS_bd n).1,(isqS_bd n).2,rfl⟩) ?_
  rintro ⟨r,s⟩ ⟨hI0,hI1,hI2⟩ mt3
  have hw:s >= 0 -> IntKind.i64.wrap (s - 1)=s - 1:=λ _=>w64_id (by omega)
  have hsub:(s - 1+1).toNat=s.toNat:=by rw [Int.sub_add_cancel]
  refine RN.go 7 [] λ _=>RN.em (s >= 0) 15 (λ h4=>?_) λ h4=>?_
  ·refine RN.goO 24 [.dv,.gen,.dv] (λ _=>[IntKind.i64.wrap ((BitVec.ofInt 64 r ||| BitVec.ofInt 64 (IntKind.i64.wrap (1 * 2 ^ min (s).toNat 64))).toNat:Int) ≠ 0,0 <= s]) (λ _=>(ac (sqN_ne r (by omega)) (ac (by omega) an))) λ _=>RN.em (IntKind.i64.wrap ((BitVec.ofInt 64 r ||| BitVec.ofInt 64 (IntKind.i64.wrap (1 * 2 ^ min (s).toNat 64))).toNat:Int) > IntKind.i64.wrap (n.tdiv (IntKind.i64.wrap ((BitVec.ofInt 64 r ||| BitVec.ofInt 64 (IntKind.i64.wrap (1 * 2 ^ min (s).toNat 64))).toNat:Int)))) 26 (λ h5=>?_) λ h5=>?_
   ·refine RN.go 10 [] λ _=>?_
    refine mt3 (r,IntKind.i64.wrap (s - 1)) [] [] ?_
    try dsimp only
    have hN:=isq_next (by omega) hI2
    rw [hw (by assumption),hsub]
    refine ⟨⟨by omega,by omega,?_⟩,by omega⟩
    simpa only [sqN, *,if_true,if_false] using hN
   ·refine RN.go 14 [] λ _=>?_
    refine mt3 (IntKind.i64.wrap ((BitVec.ofInt 64 r ||| BitVec.ofInt 64 (IntKind.i64.wrap (1 * 2 ^ min (s).toNat 64))).toNat:Int),IntKind.i64.wrap (s - 1)) [] [] ?_
    try dsimp only
    have hN:=isq_next (by omega) hI2
    rw [hw (by assumption),hsub]
    refine ⟨⟨by omega,by omega,?_⟩,by omega⟩
    simpa only [sqN, *,if_true,if_false] using hN
  ·refine RN.go 12 [] λ _=>RN.ret [] [] [] (v:=vI r) (H':=[]) ?_
   refine ⟨?_,rfl⟩
   unfold isqrtI
   first | (simp [*];done) | (have e:(s+1).toNat=0:=by omega);(rw [e,isqL] at hI2);(simp [*])
def vadd (a b:V2):V2:=⟨w64 (a.x+b.x),w64 (a.y+b.y)⟩
def vsub (a b:V2):V2:=⟨w64 (a.x - b.x),w64 (a.y - b.y)⟩
def vneg (a:V2):V2:=vsub ⟨0,0⟩ a
def vscale (a:V2) (f:Int):V2:=⟨mulI a.x f,mulI a.y f⟩
def vmuldiv (a:V2) (n d:Int):V2:=⟨mulDivI a.x n d,mulDivI a.y n d⟩
def floorI (n:Int):Int:=n.fdiv 1024
def vdot (a b:V2):Int:=floorI (w64 (w64 (a.x * b.x)+w64 (a.y * b.y)))
def vlen (a:V2):Int:=isqrtI (w64 (w64 (a.x * a.x)+w64 (a.y * a.y)))
def vzero (a:V2):Prop:=a.x=0 /\ a.y=0
instance (a:V2):Decidable (vzero a):=inferInstanceAs (Decidable (_ /\ _))
def vnorm (a:V2):V2:=if vzero a then a else vmuldiv a 1024 (vlen a)
theorem adds_any (m n:Int) (F:HL):Sp Tryz.prog 82 #[vI m,vI n] [] F (λ u H'=>u=vI (w64 (m+n)) /\ H'=[]):=by
 refine Sp.run Tryz.func82 rfl mn (A:=[]) (Ts:=[]) rfl λ w0=>?_
 refine RN.go 13 [] λ _=>?_
 exact RN.ret [] [] [] ⟨rfl,rfl⟩
theorem subs_any (m n:Int) (F:HL):Sp Tryz.prog 150 #[vI m,vI n] [] F (λ u H'=>u=vI (w64 (m - n)) /\ H'=[]):=by
 refine Sp.run Tryz.func150 rfl mn (A:=[]) (Ts:=[]) rfl λ w0=>?_
 refine RN.go 13 [] λ _=>?_
 exact RN.ret [] [] [] ⟨rfl,rfl⟩
theorem mulDiv1_any (m n d:Int) (b:Nat) (F:HL) (hb:(b,.lit [vI d] 3 (0,0)) ∈ F):Sp Tryz.prog 134 #[vI m,vI n,vP b 0] [] F (λ u H'=>u=vI (mulDivI m n d) /\ H'=[]):=by
 refine Sp.run Tryz.func134 rfl (mc hb mn) (A:=[]) (Ts:=[]) rfl λ w0=>?_
 refine RN.go 10 [.ro 0] λ _=>RN.cp (mulDiv_any m n d  _)<|RN.go 3 [] λ _=>?_
 exact RN.ret [] [] [] ⟨rfl,rfl⟩
theorem comb_add (a b:V2)  (F:HL):Sp Tryz.prog 81 #[.agg #[vI a.x,vI a.y],.agg #[vI b.x,vI b.y],.func (.func 82) #[] #[]] [] F (λ u H'=>u=.agg #[vI ((vadd a b).x),vI ((vadd a b).y)] /\ H'=[]):=by
 refine Sp.run Tryz.func81 rfl mn (A:=[]) (Ts:=[]) rfl λ w0=>?_
 refine RN.go 8 [] λ n1=>RN.draw [13] []<|RD.go [] [0,1,3,6,7,9,2,4,8,10] [.own 2,.own 1,.own 2,.own 1]<|RD.cp [] 5 (λ X_=>(adds_any a.x b.x _))<|RD.cp [] 11 (λ X_=>(adds_any a.y b.y _))<|RD.go [] [12] []<|RD.one 13 (RDO.ev [] [.own 0,.own 0] λ _=>?_)
 refine RD.fin<|RN.go 1 [] λ _=>?_
 exact RN.ret [.own 0,.own 0] [] [] ⟨rfl,rfl⟩
theorem comb_sub (a b:V2)  (F:HL):Sp Tryz.prog 81 #[.agg #[vI a.x,vI a.y],.agg #[vI b.x,vI b.y],.func (.func 150) #[] #[]] [] F (λ u H'=>u=.agg #[vI ((vsub a b).x),vI ((vsub a b).y)] /\ H'=[]):=by
 refine Sp.run Tryz.func81 rfl mn (A:=[]) (Ts:=[]) rfl λ w0=>?_
 refine RN.go 8 [] λ n1=>RN.draw [13] []<|RD.go [] [0,1,3,6,7,9,2,4,8,10] [.own 2,.own 1,.own 2,.own 1]<|RD.cp [] 5 (λ X_=>(subs_any a.x b.x _))<|RD.cp [] 11 (λ X_=>(subs_any a.y b.y _))<|RD.go [] [12] []<|RD.one 13 (RDO.ev [] [.own 0,.own 0] λ _=>?_)
 refine RD.fin<|RN.go 1 [] λ _=>?_
 exact RN.ret [.own 0,.own 0] [] [] ⟨rfl,rfl⟩
theorem comb_mul (a b:V2)  (F:HL):Sp Tryz.prog 81 #[.agg #[vI a.x,vI a.y],.agg #[vI b.x,vI b.y],.func (.func 84) #[] #[]] [] F (λ u H'=>u=.agg #[vI ((⟨mulI a.x b.x,mulI a.y b.y⟩:V2).x),vI ((⟨mulI a.x b.x,mulI a.y b.y⟩:V2).y)] /\ H'=[]):=by
 refine Sp.run Tryz.func81 rfl mn (A:=[]) (Ts:=[]) rfl λ w0=>?_
 refine RN.go 8 [] λ n1=>RN.draw [13] []<|RD.go [] [0,1,3,6,7,9,2,4,8,10] [.own 2,.own 1,.own 2,.own 1]<|RD.cp [] 5 (λ X_=>(mul_any a.x b.x  _))<|RD.cp [] 11 (λ X_=>(mul_any a.y b.y  _))<|RD.go [] [12] []<|RD.one 13 (RDO.ev [] [.own 0,.own 0] λ _=>?_)
 refine RD.fin<|RN.go 1 [] λ _=>?_
 exact RN.ret [.own 0,.own 0] [] [] ⟨rfl,rfl⟩
theorem comb_muldiv (a b:V2) (d:Int) (q:Nat) (F:HL) (hq:(q,.lit [vI d] 3 (0,0)) ∈ F):Sp Tryz.prog 81 #[.agg #[vI a.x,vI a.y],.agg #[vI b.x,vI b.y],.func (.func 134) #[] #[vP q 0]] [] F (λ u H'=>u=.agg #[vI ((⟨mulDivI a.x b.x d,mulDivI a.y b.y d⟩:V2).x),vI ((⟨mulDivI a.x b.x d,mulDivI a.y b.y d⟩:V2).y)] /\ H'=[]):=by
 refine Sp.run Tryz.func81 rfl (mc hq mn) (A:=[]) (Ts:=[]) rfl λ w0=>?_
 refine RN.go 8 [] λ n1=>RN.draw [13] []<|RD.go [] [0,1,3,6,7,9,2,4,8,10] [.own 2,.own 1,.own 2,.own 1]<|RD.cp [] 5 (λ X_=>(mulDiv1_any a.x b.x d q _ (ro_apX hq)))<|RD.cp [] 11 (λ X_=>(mulDiv1_any a.y b.y d q _ (ro_apX hq)))<|RD.go [] [12] []<|RD.one 13 (RDO.ev [] [.own 0,.own 0] λ _=>?_)
 refine RD.fin<|RN.go 1 [] λ _=>?_
 exact RN.ret [.own 0,.own 0] [] [] ⟨rfl,rfl⟩
theorem uniform_any (n:Int) (F:HL):Sp Tryz.prog 83 #[vI n] [] F (λ u H'=>u=.agg #[vI n,vI n] /\ H'=[]):=by
 refine Sp.run Tryz.func83 rfl mn (A:=[]) (Ts:=[]) rfl λ w0=>?_
 refine RN.go 13 [.own 0,.own 0] λ n1=>?_
 exact RN.ret [.own 0,.own 0] [] [] ⟨rfl,rfl⟩
theorem vadd_any (a:V2) (b:V2)  (F:HL):Sp Tryz.prog 50 #[.agg #[vI a.x,vI a.y],.agg #[vI b.x,vI b.y]] [] F (λ u H'=>u=.agg #[vI ((vadd a b).x),vI ((vadd a b).y)] /\ H'=[]):=by
 refine Sp.run Tryz.func50 rfl mn (A:=[]) (Ts:=[]) rfl λ w0=>?_
 refine RN.go 11 [.own 2,.own 2,.own 1,.own 1] λ n1=>RN.cp (comb_add a b _)<|RN.go 3 [.own 0,.own 0] λ _=>?_
 exact RN.ret [.own 0,.own 0] [] [] ⟨rfl,rfl⟩
theorem vsub_any (a:V2) (b:V2)  (F:HL):Sp Tryz.prog 123 #[.agg #[vI a.x,vI a.y],.agg #[vI b.x,vI b.y]] [] F (λ u H'=>u=.agg #[vI ((vsub a b).x),vI ((vsub a b).y)] /\ H'=[]):=by
 refine Sp.run Tryz.func123 rfl mn (A:=[]) (Ts:=[]) rfl λ w0=>?_
 refine RN.go 11 [.own 2,.own 2,.own 1,.own 1] λ n1=>RN.cp (comb_sub a b _)<|RN.go 3 [.own 0,.own 0] λ _=>?_
 exact RN.ret [.own 0,.own 0] [] [] ⟨rfl,rfl⟩
theorem vneg_any (a:V2)  (F:HL):Sp Tryz.prog 124 #[.agg #[vI a.x,vI a.y]] [] F (λ u H'=>u=.agg #[vI ((vneg a).x),vI ((vneg a).y)] /\ H'=[]):=by
 refine Sp.run Tryz.func124 rfl mn (A:=[]) (Ts:=[]) rfl λ w0=>?_
 refine RN.go 10 [.own 1,.own 1] λ n1=>RN.cp (vsub_any (⟨0,0⟩:V2) a  _)<|RN.go 3 [.own 0,.own 0] λ _=>?_
 exact RN.ret [.own 0,.own 0] [] [] ⟨rfl,rfl⟩
theorem vscale_any (a:V2) (f:Int)  (F:HL):Sp Tryz.prog 51 #[.agg #[vI a.x,vI a.y],vI f] [] F (λ u H'=>u=.agg #[vI ((vscale a f).x),vI ((vscale a f).y)] /\ H'=[]):=by
 refine Sp.run Tryz.func51 rfl mn (A:=[]) (Ts:=[]) rfl λ w0=>?_
 refine RN.go 7 [] λ n1=>RN.draw [4] []<|RD.go [] [0,1] [.own 1,.own 1]<|RD.cp [] 2 (λ X_=>(uniform_any f _))<|RD.cp [] 3 (λ X_=>(comb_mul a (⟨f,f⟩:V2) _))<|RD.one 4 (RDO.ev [] [.own 0,.own 0] λ _=>?_)
 refine RD.fin<|RN.go 1 [] λ _=>?_
 exact RN.ret [.own 0,.own 0] [] [] ⟨rfl,rfl⟩
theorem vmuldiv_any (a:V2) (n:Int) (d:Int)  (F:HL):Sp Tryz.prog 89 #[.agg #[vI a.x,vI a.y],vI n,vI d] [] F (λ u H'=>u=.agg #[vI ((vmuldiv a n d).x),vI ((vmuldiv a n d).y)] /\ H'=[]):=by
 refine Sp.run Tryz.func89 rfl mn (A:=[]) (Ts:=[]) rfl λ w0=>?_
 refine RN.go 8 [] λ n1=>RN.draw [5] []<|RD.go [] [0,1,3] [.own 2,.own 2]<|RD.cp [] 2 (λ X_=>(uniform_any n _))<|RD.cp [] 4 (λ X_=>(comb_muldiv a (⟨n,n⟩:V2) d (n1+1) _ (in_apX 1)))<|RD.one 5 (RDO.ev [] [.own 0,.own 0] λ _=>?_)
 refine RD.fin<|RN.go 1 [] λ _=>?_
 exact RN.ret [.own 0,.own 0] [] [] ⟨rfl,rfl⟩
theorem floor_any (n:Int)  (F:HL):Sp Tryz.prog 149 #[vI n] [] F (λ u H'=>u=vI (floorI n) /\ H'=[]):=by
 refine Sp.run Tryz.func149 rfl mn (A:=[]) (Ts:=[]) rfl λ w0=>?_
 refine RN.go 12 [] λ _=>?_
 exact RN.ret [] [] [] ⟨rfl,rfl⟩
theorem vdot_any (a:V2) (b:V2)  (F:HL):Sp Tryz.prog 122 #[.agg #[vI a.x,vI a.y],.agg #[vI b.x,vI b.y]] [] F (λ u H'=>u=vI (vdot a b) /\ H'=[]):=by
 refine Sp.run Tryz.func122 rfl mn (A:=[]) (Ts:=[]) rfl λ w0=>?_
 refine RN.go 20 [.own 1,.own 0,.own 1,.own 0] λ n1=>RN.cp (floor_any (IntKind.i64.wrap ((IntKind.i64.wrap (a.x * b.x))+(IntKind.i64.wrap (a.y * b.y))))  _)<|RN.go 3 [] λ _=>?_
 exact RN.ret [] [] [] ⟨rfl,rfl⟩
theorem vlen_any (a:V2)  (F:HL):Sp Tryz.prog 182 #[.agg #[vI a.x,vI a.y]] [] F (λ u H'=>u=vI (vlen a) /\ H'=[]):=by
 refine Sp.run Tryz.func182 rfl mn (A:=[]) (Ts:=[]) rfl λ w0=>?_
 refine RN.go 19 [.own 0,.own 0,.own 0,.own 0] λ n1=>RN.cp (isqrt_any (IntKind.i64.wrap ((IntKind.i64.wrap (a.x * a.x))+(IntKind.i64.wrap (a.y * a.y))))  _)<|RN.go 3 [] λ _=>?_
 exact RN.ret [] [] [] ⟨rfl,rfl⟩
theorem vnorm_any (a:V2)  (F:HL):Sp Tryz.prog 178 #[.agg #[vI a.x,vI a.y]] [] F (λ u H'=>u=.agg #[vI ((vnorm a).x),vI ((vnorm a).y)] /\ H'=[]):=by
 refine Sp.run Tryz.func178 rfl mn (A:=[]) (Ts:=[]) rfl λ w0=>?_
 refine RN.go 14 [.own 1,.own 1,.sq] λ n1=>RN.eb ((decide (a.x=0) && (decide (a.y=0) && true))) 5 (λ h2=>?_) λ h2=>?_
 ·refine RN.go 7 [.own 1,.own 1,.own 0,.own 0] λ _=>RN.ret [.own 0,.own 0] [] [] (v:=.agg #[vI a.x,vI a.y]) (H':=[]) ?_
  refine ⟨?_,rfl⟩
  unfold vnorm
  first | rw [if_pos (by simpa [vzero] using h2)] | rw [if_neg (by simpa [vzero] using h2)]
 ·refine RN.go 4 [] λ _=>RN.draw [4] []<|RD.go [] [0,1] [.own 1,.own 1,.own 1,.own 1]<|RD.cp [] 2 (λ X_=>(vlen_any a  _))<|RD.cp [] 3 (λ X_=>(vmuldiv_any a 1024 (vlen a)  _))<|RD.one 4 (RDO.ev [] [.own 0,.own 0] λ _=>?_)
  refine RD.fin<|RN.go 1 [] λ _=>RN.ret [.own 0,.own 0] [] [] (v:=.agg #[vI ((vmuldiv a 1024 (vlen a)).x),vI ((vmuldiv a 1024 (vlen a)).y)]) (H':=[]) ?_
  refine ⟨?_,rfl⟩
  unfold vnorm
  first | rw [if_pos (by simpa [vzero] using h2)] | rw [if_neg (by simpa [vzero] using h2)]
structure Shp where (r:Int) (poly:List V2) (A:Option Addr) (cap:Nat)
abbrev shV (s:Shp):Value:=.agg #[vI s.r,.slice s.A s.poly.length s.cap]
def vrow (l:List V2):Nat -> Nat -> Value:=λ i k=>match k with | 0=>vI (l.getD i ⟨0,0⟩).x | _=>vI (l.getD i ⟨0,0⟩).y
inductive ShIn (F:HL):Shp -> Prop
 | circle (r:Int) (A:Option Addr) (cap:Nat):ShIn F ⟨r,[],A,cap⟩
 | poly (r:Int) (l:List V2) (b cap:Nat) (h:(b,.rows 2 cap (vrow l) 29 (0,0)) ∈ F) (h3:3 <= l.length) (h4:l.length <= cap) (h5:l.length <= 1000000):ShIn F ⟨r,l,some ⟨b,0,none⟩,cap⟩
theorem ShIn.mono {F F':HL} {s:Shp} (h:ShIn F s) (hs:∀ x ∈ F,x ∈ F'):ShIn F' s:=by
 cases h with
 | circle r A cap=>exact .circle r A cap
 | poly r l b cap h h3 h4 h5=>exact .poly r l b cap (hs _ h) h3 h4 h5
def circ (s:Shp):Prop:=s.poly=[]
instance (s:Shp):Decidable (circ s):=decidable_of_iff (s.poly.isEmpty=true) (by simp [circ])
def bstep (b:Bx) (c:V2):Bx:=⟨if c.x < b.x0 then c.x else b.x0,if c.y < b.y0 then c.y else b.y0,if c.x > b.x1 then c.x else b.x1,if c.y > b.y1 then c.y else b.y1⟩
def bfold (pos:V2) (l:List V2):Nat -> Bx
 | 0=>⟨(vadd pos (l.getD 0 ⟨0,0⟩)).x,(vadd pos (l.getD 0 ⟨0,0⟩)).y,(vadd pos (l.getD 0 ⟨0,0⟩)).x,(vadd pos (l.getD 0 ⟨0,0⟩)).y⟩
 | k+1=>bstep (bfold pos l k) (vadd pos (l.getD (1+k) ⟨0,0⟩))
def bounds (s:Shp) (pos:V2):Bx:=if circ s then ⟨w64 (pos.x - s.r),w64 (pos.y - s.r),w64 (pos.x+s.r),w64 (pos.y+s.r)⟩ else bfold pos s.poly (s.poly.length - 1)
def meetP (a b c d:Int):Prop:=a <= d /\ c <= b
instance (a b c d:Int):Decidable (meetP a b c d):=inferInstanceAs (Decidable (_ /\ _))
def ovl (a b:Bx):Prop:=meetP a.x0 a.x1 b.x0 b.x1 /\ meetP a.y0 a.y1 b.y0 b.y1
instance (a b:Bx):Decidable (ovl a b):=inferInstanceAs (Decidable (_ /\ _))
theorem sc_any (r:Int) (A:Option Addr) (n cap:Nat) (F:HL):Sp Tryz.prog 143 #[.agg #[vI r,.slice A n cap]] [] F (λ u H'=>u=.bool (decide ((n:Int)=0)) /\ H'=[]):=by
 refine Sp.run Tryz.func143 rfl mn (A:=[]) (Ts:=[]) rfl λ w0=>?_
 refine RN.go 15 [.own 0] λ n1=>?_
 exact RN.ret [] [] [] ⟨rfl,rfl⟩
theorem cc_any (r:Int) (A:Option Addr) (n cap:Nat) (F:HL):Sp Tryz.prog 146 #[.agg #[vI r,.slice A n cap]] [] F (λ u H'=>u=.bool (decide ((n:Int)=0)) /\ H'=[]):=by
 refine Sp.run Tryz.func146 rfl mn (A:=[]) (Ts:=[]) rfl λ w0=>?_
 refine RN.go 15 [.own 0] λ n1=>?_
 exact RN.ret [] [] [] ⟨rfl,rfl⟩
theorem meet_any (a:Int) (b:Int) (c:Int) (d:Int)  (F:HL):Sp Tryz.prog 142 #[vI a,vI b,vI c,vI d] [] F (λ u H'=>u=.bool (decide (meetP a b c d)) /\ H'=[]):=by
 refine Sp.run Tryz.func142 rfl mn (A:=[]) (Ts:=[]) rfl λ w0=>?_
 refine RN.go 11 [] λ _=>RN.em (a <= d) 12 (λ h1=>?_) λ h1=>?_
 ·refine RN.go 7 [] λ _=>RN.ret [] [] [] (v:=.bool (decide (c <= b))) (H':=[]) ?_
  exact ⟨by simp [meetP, *],rfl⟩
 ·refine RN.go 7 [] λ _=>RN.ret [] [] [] (v:=.bool false) (H':=[]) ?_
  exact ⟨by simp [meetP, *],rfl⟩
theorem ovl_any (a:Bx) (b:Bx)  (F:HL):Sp Tryz.prog 118 #[.agg #[vI a.x0,vI a.y0,vI a.x1,vI a.y1],.agg #[vI b.x0,vI b.y0,vI b.x1,vI b.y1]] [] F (λ u H'=>u=.bool (decide (ovl a b)) /\ H'=[]):=by
 refine Sp.run Tryz.func118 rfl mn (A:=[]) (Ts:=[]) rfl λ w0=>?_
 refine RN.go 17 [.own 1,.own 1,.own 0,.own 0] λ n1=>RN.cp (meet_any a.x0 a.x1 b.x0 b.x1  _)<|RN.go 1 [] λ _=>RN.em (meetP a.x0 a.x1 b.x0 b.x1) 14 (λ h2=>?_) λ h2=>?_
 ·refine RN.go 8 [.own 1,.own 1,.own 0,.own 0] λ _=>RN.cp (meet_any a.y0 a.y1 b.y0 b.y1  _)<|RN.go 4 [] λ _=>RN.ret [] [] [] (v:=.bool (decide (meetP a.y0 a.y1 b.y0 b.y1))) (H':=[]) ?_
  exact ⟨by simp [ovl, *],rfl⟩
 ·refine RN.go 13 [] λ _=>RN.ret [] [] [] (v:=.bool false) (H':=[]) ?_
  exact ⟨by simp [ovl, *],rfl⟩
theorem bounds_circle (r:Int) (A:Option Addr) (cap:Nat) (pos:V2) (F:HL):Sp Tryz.prog 119 #[.agg #[vI r,.slice A 0 cap],.agg #[vI pos.x,vI pos.y]] [] F (λ u H'=>u=.agg #[vI ((bounds ⟨r,[],A,cap⟩ pos).x0),vI ((bounds ⟨r,[],A,cap⟩ pos).y0),vI ((bounds ⟨r,[],A,cap⟩ pos).x1),vI ((bounds ⟨r,[],A,cap⟩ pos).y1)] /\ H'=[]):=by
 refine Sp.run Tryz.func119 rfl mn (A:=[]) (Ts:=[]) rfl λ w0=>?_
 refine RN.go 11 [.own 2,.own 2] λ n1=>RN.cp (sc_any r A 0 cap _)<|RN.go 29 [.own 1,.own 2,.own 1,.own 2,.own 1,.own 2,.own 1,.own 2,.own 0,.own 0,.own 0,.own 0] λ _=>?_
 exact RN.ret [.own 0,.own 0,.own 0,.own 0] [] [] ⟨rfl,rfl⟩
theorem bounds_poly (r:Int) (l:List V2) (b cap:Nat) (pos:V2) (F:HL) (hb:(b,.rows 2 cap (vrow l) 29 (0,0)) ∈ F) (h3:3 <= l.length) (h4:l.length <= cap) (h5:l.length <= 1000000):Sp Tryz.prog 119 #[.agg #[vI r,vS b 0 l.length cap],.agg #[vI pos.x,vI pos.y]] [] F (λ u H'=>u=.agg #[vI ((bounds ⟨r,l,some ⟨b,0,none⟩,cap⟩ pos).x0),vI ((bounds ⟨r,l,some ⟨b,0,none⟩,cap⟩ pos).y0),vI ((bounds ⟨r,l,some ⟨b,0,none⟩,cap⟩ pos).x1),vI ((bounds ⟨r,l,some ⟨b,0,none⟩,cap⟩ pos).y1)] /\ H'=[]):=by
 refine Sp.run Tryz.func119 rfl (mc hb mn) (A:=[]) (Ts:=[]) rfl λ w0=>?_
 refine RN.go 11 [.own 2,.own 2] λ n1=>RN.cp (sc_any r (some ⟨b,0,none⟩) l.length cap _)<|RN.go 2 [] λ _=>RN.fx 11 (decide_eq_false (show ¬ ((l.length:Int)=0) by omega))<|RN.go 4 [] λ _=>RN.draw [7] []<|RD.goP [] [0,1,2,3,4] [.own 1,.own 1,.own 2,.ix 0,.rorow 0 0 0,.rorow 0 0 1] [((0+0 * 2)+1)=0 * 2+1 /\ 0 < cap,(0+0 * 2)=0 * 2+0 /\ 0 < cap,0=((0:Nat):Int) /\ 0 < l.length]<|RD.cp [] 5 (λ X_=>(vadd_any pos (l.getD 0 ⟨0,0⟩)  _))<|RD.one 6 (RDO.ev [] [] λ n2=>?_)
 refine RD.one 7 (RDO.ev [] [.own 0,.own 0] λ _=>?_)
 refine RD.fin<|RN.goP 27 (ow 0 8++[.own 4,.sl 1 l.length false]) [1=((1:Nat):Int) /\ l.length=l.length /\ 1 <= l.length /\ l.length <= cap /\ cap ≠ 1] λ n3=>RN.loop (σ:=Nat) (λ k=>⟨[(3,vP (n1+1) 0),(4,vP (n1+2) 0),(6,vP (n3+0) 0),(50,vS b 2 (l.length - 1) (cap - 1)),(51,vI (((l.length - 1):Nat):Int)),(52,vI (k:Int))],[((n3+0),.lit [vI ((bfold pos l k).x0),vI ((bfold pos l k).y0),vI ((bfold pos l k).x1),vI ((bfold pos l k).y1)] 25 (0,0)),((n2+0),.lit [vI ((vadd pos (l.getD 0 ⟨0,0⟩)).x),vI ((vadd pos (l.getD 0 ⟨0,0⟩)).y)] 29 (0,0)),((n1+2),.lit [vI 0,vI 0,vI 0,vI 0] 25 (0,0)),((n1+1),.lit [vI pos.x,vI pos.y] 29 (0,0)),((n1+0),.lit [vI r,vS b 0 l.length cap] 59 (0,0))],[],k <= l.length - 1,l.length - k⟩) 0 [0,1,2,3,4] [] (Nat.zero_le _) ?_
 rintro k hI4 mt5
 refine RN.go 6 [] λ _=>RN.em ((k:Int) < (((l.length - 1):Nat):Int)) 53 (λ h6=>?_) λ h6=>?_
 ·refine RN.goP 17 [.ix k,.rorow 0 (1+k) 0,.rorow 0 (1+k) 1,.own 0,.own 0,.own 4,.own 4,.own 0,.own 0] [((2+k * 2)+1)=(1+k) * 2+1 /\ (1+k) < cap,(2+k * 2)=(1+k) * 2+0 /\ (1+k) < cap,(k:Int)=((k:Nat):Int) /\ k < (l.length - 1)] λ n7=>RN.cp (vadd_any pos (l.getD (1+k) ⟨0,0⟩)  _)<|RN.go 5 [.own 0,.own 0] λ n8=>RN.draw [11,13] [0,1,3,4,5,6]<|RD.go [0,1,3,4,5,6] [0,2,5,7,1,3,6,8,4,9,10] [.own 2,.own 0,.own 2,.ro 0]<|RD.one 11 (RDO.ev [0,1,3,4,5,6] [.own 2] λ _=>?_)
  refine RD.go [0,1,3,4,5,6] [12] []<|RD.one 13 (RDO.ev [0,1,3,4,5,6] [.own 2] λ _=>?_)
  refine RD.fin<|RN.go 1 [] λ _=>RN.draw [11,13] [0,1,3,4,5,6]<|RD.go [0,1,3,4,5,6] [0,2,5,7,1,3,6,8,4,9,10] [.own 2,.own 0,.own 2,.ro 0]<|RD.one 11 (RDO.ev [0,1,3,4,5,6] [.own 2] λ _=>?_)
  refine RD.go [0,1,3,4,5,6] [12] []<|RD.one 13 (RDO.ev [0,1,3,4,5,6] [.own 2] λ _=>?_)
  refine RD.fin<|RN.goP 6 [.nw] [I64 ((k:Int)+1)] λ _=>?_
  refine mt5 (k+1) [2,3,4,5,6] [] ?_
  try dsimp only
  refine ⟨by omega,by omega⟩
 ·refine RN.go 12 [.own 0,.own 0,.own 0,.own 0,.own 2,.own 2,.own 2,.own 2] λ _=>RN.ret [.own 2,.own 2,.own 2,.own 2] [] [] (v:=.agg #[vI ((bfold pos l k).x0),vI ((bfold pos l k).y0),vI ((bfold pos l k).x1),vI ((bfold pos l k).y1)]) (H':=[]) ?_
  have ek:k=l.length - 1:=by omega
  subst ek
  refine ⟨?_,rfl⟩
  unfold bounds
  rw [if_neg (by intro e;simp [circ] at e;rw [e] at h3;simp at h3)]
theorem bounds_any (s:Shp) (pos:V2) (F:HL) (h:ShIn F s):Sp Tryz.prog 119 #[shV s,.agg #[vI pos.x,vI pos.y]] [] F (λ u H'=>u=.agg #[vI (bounds s pos).x0,vI (bounds s pos).y0,vI (bounds s pos).x1,vI (bounds s pos).y1] /\ H'=[]):=by
 cases h with
 | circle r A cap=>exact bounds_circle r A cap pos F
 | poly r l b cap h h3 h4 h5=>exact bounds_poly r l b cap pos F h h3 h4 h5
section
variable {r:Option Nat} {P:Program} {N:Nat} {D:List Deferred} {F:HL} {w0:World} {R:HL} {s:Cfg} {Q:Exit -> Act -> World -> Prop} {hards:List Nat} {Rd:HL}
def dnC (i:Nat) (b:Blk) (s:Cfg):Cfg:=match s with
  | ⟨c,k,L,A,Ts⟩=>⟨c,k,L,match A[i]? with | some x=>setAt A i (x.1,b) | none=>A,Ts⟩
theorem setAt_den {A:HL} {i:Nat} {x:Nat × Blk} {b:Blk} (h:A[i]?=some x) (e:x.2.den=b.den):denL A=denL (setAt A i (x.1,b)):=by
  rw [setAt_eq]
  unfold denL
  rw [List.map_set]
  have h1:(A.map λ x=>(x.1,x.2.den))[i]?=some (x.1,b.den):=by rw [List.getElem?_map,h];simp [e]
  have hlt:i < (A.map λ x=>(x.1,x.2.den)).length:=(List.getElem?_eq_some_iff.1 h1).1
  have h2:(x.1,b.den)=(A.map λ x=>(x.1,x.2.den))[i]:=((List.getElem?_eq_some_iff.1 h1).2).symm
  show _=(A.map λ x=>(x.1,x.2.den)).set i (x.1,b.den)
  rw [h2,List.set_getElem_self]
def dnB (i:Nat) (s:Cfg):Option Obj:=(s.A[i]?).map (·.2.den)
theorem RN.dn (i:Nat) (b:Blk) (hk:RN r P N D F w0 R (dnC i b s) Q) (h:dnB i s=some b.den:=by kernel_rfl):RN r P N D F w0 R s Q:=by
  refine ⟨λ hR a w h1 h2 h3=>hk.h hR a w h1 ?_ h3⟩
  obtain ⟨c,k,L,A,Ts⟩:=s
  unfold dnB at h
  simp only [Option.map_eq_some_iff] at h
  obtain ⟨x,hx,e⟩:=h
  unfold dnC
  simp only [hx]
  exact h2.denA (setAt_den hx e)
theorem RD.dn (i:Nat) (b:Blk) (hk:RD r P N D F w0 R hards Rd (dnC i b s) Q) (h:dnB i s=some b.den:=by kernel_rfl):RD r P N D F w0 R hards Rd s Q:=by
  refine ⟨λ hR hs=>?_⟩
  obtain ⟨c,k,L,A,Ts⟩:=s
  unfold dnB at h
  simp only [Option.map_eq_some_iff] at h
  obtain ⟨x,hx,e⟩:=h
  have h1:=hk.h hR hs
  unfold dnC at h1
  simp only [hx] at h1
  exact TD.den _ (setAt_den hx e) h1
def ptC (jp:List Nat) (s:Cfg):Cfg:=match s with
  | ⟨c,k,L,A,Ts⟩=>⟨c,k,L,A,jp.filterMap (Ts[·]?)⟩
theorem RN.pt (jp:List Nat) (hk:RN r P N D F w0 R (ptC jp s) Q) (h:jp.isPerm (List.range s.Ts.length)=true:=by kernel_rfl):RN r P N D F w0 R s Q :=
  ⟨λ hR a w h1 h2 h3=>hk.h hR a w h1 (h2.perm ((apT_perm jp h rfl).append_right F)) h3⟩
def otC (j:Nat) (x:Nat × Blk) (s:Cfg):Cfg:=match s with
  | ⟨c,k,L,A,Ts⟩=>⟨c,k,L,x :: A,(oth [j] Ts.length).filterMap (Ts[·]?)⟩
theorem RN.ot (j:Nat) {x:Nat × Blk} (hk:RN r P N D F w0 R (otC j x s) Q) (h:(s.Ts[j]?,([j]++oth [j] s.Ts.length).isPerm (List.range s.Ts.length))=(some [x],true):=by kernel_rfl):RN r P N D F w0 R s Q:=by
  simp only [Prod.mk.injEq] at h
  exact ⟨λ hR a w h1 h2 h3=>hk.h hR a w h1 (h2.perm ((openT_perm _ j h.2 h.1 rfl).append_right F)) h3⟩
def jtC (s:Cfg):Cfg:=match s with
  | ⟨c,k,L,A,T1 :: T2 :: Ts⟩=>⟨c,k,L,A,(T1++T2) :: Ts⟩
  | s=>s
theorem RN.jt (hk:RN r P N D F w0 R (jtC s) Q):RN r P N D F w0 R s Q:=by
  refine ⟨λ hR a w h1 h2 h3=>?_⟩
  have h4:=hk.h hR a w
  unfold jtC at h4
  split at h4
  · exact h4 h1 (by simpa [ap] using h2) h3
  · exact h4 h1 h2 h3
def ntC (s:Cfg):Cfg:=match s with
  | ⟨c,k,L,A,Ts⟩=>⟨c,k,L,A,[] :: Ts⟩
theorem RN.nt (hk:RN r P N D F w0 R (ntC s) Q):RN r P N D F w0 R s Q:=⟨λ hR a w h1 h2 h3=>hk.h hR a w h1 h2 h3⟩
def svC (t:Nat) (v:Value) (s:Cfg):Cfg:=match s with
  | ⟨c,k,L,A,Ts⟩=>⟨c,k,(t,v) :: L,A,Ts⟩
theorem RN.sv (t:Nat) {u v:Value} (e:u=v) (hk:RN r P N D F w0 R (svC t v s) Q) (h:s.L.lookup t=some u:=by kernel_rfl):RN r P N D F w0 R s Q:=by
  subst e
  exact ⟨λ hR a w h1 h2 h3=>hk.h hR a w (h1.fix h) h2 h3⟩
def bvC (i:Nat) (b:Blk) (s:Cfg):Cfg:=match s with
  | ⟨c,k,L,A,Ts⟩=>⟨c,k,L,match A[i]? with | some x=>setAt A i (x.1,b) | none=>A,Ts⟩
theorem RN.bv (i:Nat) {b b':Blk} (e:b=b') (hk:RN r P N D F w0 R (bvC i b' s) Q) (h:(s.A[i]?).map (·.2)=some b:=by kernel_rfl):RN r P N D F w0 R s Q:=by
  subst e
  refine ⟨λ hR a w h1 h2 h3=>hk.h hR a w h1 ?_ h3⟩
  obtain ⟨c,k,L,A,Ts⟩:=s
  simp only [Option.map_eq_some_iff] at h
  obtain ⟨x,hx,e⟩:=h
  unfold bvC
  simp only [hx]
  refine h2.denA (setAt_den hx (by rw [e]))
variable {α:Type} {e:Enc α} {T:TypeId} {inf:TypeInfo} {z:Value}
def appV (P:Program) (o:Oper) (L:FL):Option (Option Addr × Nat × Nat × TypeId × Option Addr × Nat × Nat × TypeId):=match o.guard,o.op with
  | none,.call c=>match c.callee,c.args.toList,c.argTypes.toList with
    | .builtin .append,[a1,a2],[t,tx]=>match inL L a1 && inL L a2,rho L a1,rho L a2 with
      | true,.slice A n cap,.slice B m c'=>match P.underlying t,P.underlying tx with
        | some (.slice T),some (.slice _)=>some (A,n,cap,T,B,m,c',tx)
        | _,_=>none
      | _,_,_=>none
    | _,_,_=>none
  | _,_=>none
theorem appV_spec {o:Oper} {L:FL} {A:Option Addr} {n cap:Nat} {B:Option Addr} {m c':Nat} {tx:TypeId} (h:appV P o L=some (A,n,cap,T,B,m,c',tx)) :
    ∃ a1 a2 t e',o.guard=none /\ o.op=.call { callee:=.builtin .append,args:=#[a1,a2],argTypes:=#[t,tx] } /\ (inL L a1 && inL L a2)=true /\ rho L a1=.slice A n cap /\ rho L a2=.slice B m c' /\ P.underlying t=some (.slice T) /\ P.underlying tx=some (.slice e'):=by
  unfold appV at h
  split at h
  case h_2=>cases h
  rename_i c hg hop
  split at h
  case h_2=>cases h
  rename_i a1 a2 t tx' h1 h2 h3
  split at h
  case h_2=>cases h
  rename_i A' n' cap' B' m' c2 h4 h5 h6
  split at h
  case h_2=>cases h
  rename_i T' e' h7 h8
  simp only [Option.some.injEq,Prod.mk.injEq] at h
  obtain ⟨e1,e2,e3,e4,e5,e6,e7,e8⟩:=h
  subst e1;subst e2;subst e3;subst e4;subst e5;subst e6;subst e7;subst e8
  refine ⟨a1,a2,t,e',hg,?_,h4,h5,h6,h7,h8⟩
  obtain ⟨cal,args,ats⟩:=c
  simp only at h1 h2 h3
  subst h1
  have:args=#[a1,a2]:=by cases args;simp_all
  subst this
  have:ats=#[t,tx']:=by cases ats;simp_all
  subst this
  exact hop
def opAt (s:Cfg):Option Oper:=match s.c with
  | .ops ops i=>ops.toList[i]?
  | _=>none
def opAtD (i:Nat) (s:Cfg):Option Oper:=match s.c with
  | .drw ops _=>ops.toList[i]?
  | _=>none
def srcB (p:Nat) (s:Cfg):Option (Nat × List Value):=match s.A[p]? with
  | some (b,.lit cs _ _)=>some (b,cs)
  | _=>none
def appK (P:Program) (N j p:Nat) (oo:Option Oper) (s:Cfg):Option (Option Addr × Nat × Nat × TypeId × Nat × List Value × HL × Nat):=match oo with
  | some o=>match appV P o s.L,srcB p s,s.Ts[j]?,([j]++oth [j] s.Ts.length).isPerm (List.range s.Ts.length) && (putL N o.dst undef s.L).isSome with
    | some (A,n,cap,T,some ⟨b,0,none⟩,m,_,_),some (_,cs),some Hl,true=>some (A,n,cap,T,m,cs,Hl,b)
    | _,_,_,_=>none
  | none=>none
def appX (p:Nat) (s:Cfg):Nat:=match srcB p s with
  | some (b,_)=>b
  | none=>0
theorem appK_spec {j p:Nat} {oo:Option Oper} {A:Option Addr} {n cap m:Nat} {cs:List Value} {Hl:HL} (h:appK P N j p oo s=some (A,n,cap,T,m,cs,Hl,appX p s)) :
    ∃ o a1 a2 t tx e' c' b ty fz,oo=some o /\ o.guard=none /\ o.op=.call { callee:=.builtin .append,args:=#[a1,a2],argTypes:=#[t,tx] } /\ (inL s.L a1 && inL s.L a2)=true /\ rho s.L a1=.slice A n cap /\ rho s.L a2=.slice (some ⟨b,0,none⟩) m c' /\ P.underlying t=some (.slice T) /\ P.underlying tx=some (.slice e') /\
      s.A[p]?=some (b,.lit cs ty fz) /\ s.Ts[j]?=some Hl /\ ([j]++oth [j] s.Ts.length).isPerm (List.range s.Ts.length)=true /\ (putL N o.dst undef s.L).isSome=true:=by
  unfold appK at h
  split at h
  case h_2=>cases h
  rename_i o
  split at h
  case h_2=>cases h
  rename_i A' n' cap' T' b m' c' tx b' cs' Hl' h1 h2 h3 h4
  simp only [Option.some.injEq,Prod.mk.injEq] at h
  obtain ⟨e1,e2,e3,e4,e5,e6,e7,e8⟩:=h
  subst e1;subst e2;subst e3;subst e4;subst e5;subst e6;subst e7
  obtain ⟨a1,a2,t,e',q1,q2,q3,q4,q5,q6,q7⟩:=appV_spec h1
  rw [Bool.and_eq_true] at h4
  unfold appX at e8
  rw [h2] at e8
  simp only at e8
  subst e8
  unfold srcB at h2
  split at h2
  case h_2=>cases h2
  rename_i b2 cs2 ty fz h5
  simp only [Option.some.injEq,Prod.mk.injEq] at h2
  obtain ⟨e1,e2⟩:=h2
  subst e1;subst e2
  exact ⟨o,a1,a2,t,tx,e',c',_,ty,fz,rfl,q1,q2,q3,q4,q5,q6,q7,h5,h3,h4.1,h4.2⟩
def rpC (j:Nat) (Hl:HL) (s:Cfg):Cfg:=match s with
  | ⟨c,k,L,A,Ts⟩=>⟨c,k,L,A,Hl :: (oth [j] Ts.length).filterMap (Ts[·]?)⟩
theorem tail_perm {A:HL} {Ts:List HL} {Hl:HL} {j:Nat} (hj:Ts[j]?=some Hl) (hp:([j]++oth [j] Ts.length).isPerm (List.range Ts.length)=true):(Hl++(A++((oth [j] Ts.length).filterMap (Ts[·]?)).flatten)).Perm (ap A Ts):=by
  have h3:=pick_perm Ts [j] _ hp
  simp only [List.filterMap_cons,hj,List.filterMap_nil] at h3
  have h4:=h3.flatten
  simp only [List.cons_append,List.nil_append,List.flatten_cons] at h4
  refine List.Perm.trans ?_ (List.Perm.append_left A h4)
  rw [<- List.append_assoc,<- List.append_assoc]
  exact List.Perm.append_right _ List.perm_append_comm
theorem RN.app (ok:EncOk e P T inf z) (l src:List α) (j p:Nat) {A:Option Addr} {n cap:Nat} {Hl:HL} (hn:n=l.length) (hsl:SlIs e T l A cap Hl) (hb:l.length+src.length <= 100000000)
    (hk:∀ (A':Option Addr) (cap':Nat) (Hl':HL),(SlIs e T (l++src) A' cap' Hl' /\ (zeroOff A -> zeroOff A')) -> RN r P N D F w0 R (rpC j Hl' (putC N (.slice A' (n+src.length) cap') s)) Q)
    (h:appK P N j p (opAt s) s=some (A,n,cap,T,src.length,cellsE e src,Hl,appX p s):=by kernel_rfl):RN r P N D F w0 R s Q:=by
  obtain ⟨o,a1,a2,t,tx,e',c',b,ty,fz,q0,q1,q2,q3,q4,q5,q6,q7,q8,q9,q10,q11⟩:=appK_spec h
  refine ⟨λ hR a w hF hRel hB=>?_⟩
  obtain ⟨c,k,L,B,Ts⟩:=s
  unfold opAt at q0
  cases c with
  | code c=>cases q0
  | ex c=>cases q0
  | drw _ _=>cases q0
  | ops ops i =>
    simp only at q0 q3 q4 q5 q8 q9 q10 q11 hF hRel
    have hdrop:ops.toList.drop i=o :: ops.toList.drop (i+1):=by
      have hlt:i < ops.toList.length:=(List.getElem?_eq_some_iff.1 q0).1
      rw [List.drop_eq_getElem_cons hlt,(List.getElem?_eq_some_iff.1 q0).2]
    show wpListIn _ _ _ _ _ _ _ _
    rw [hdrop,wpListIn,if_pos (by simp [Region.wanted,q1])]
    refine ⟨λ _ _=>trivial,?_⟩
    have hperm:=tail_perm (A:=B) q9 q10
    refine gives_upon (by rw [q2];intro c hc;cases hc) (app_gives (x:=vS b 0 src.length c') (src:=src) (G:=B++((oth [j] Ts.length).filterMap (Ts[·]?)).flatten) ok q2 q6 q3 q4 hn q5 hperm hsl (λ w hw=>src_lit ok q7 p (by rw [List.getElem?_append_left (List.getElem?_eq_some_iff.1 q8).1];exact q8) hw) hb a hF w hRel) ?_
    rintro u w' ⟨⟨A',cap',Hl'⟩,⟨rfl,hsl'⟩,hR',hB'⟩
    obtain ⟨L',p1⟩:=putL_some q11 (.slice A' (n+src.length) cap')
    have hh:=(hk A' cap' Hl' hsl').h hR
    have hpc:putC N (.slice A' (n+src.length) cap') ⟨.ops ops i,k,L,B,Ts⟩=⟨.ops ops (i+1),k,L',B,Ts⟩:=by
      unfold putC
      simp only [q0,p1]
    rw [hpc] at hh
    refine hh _ w' (hF.put p1) (hR'.perm (List.Perm.append_right F ?_)) (hB.trans hB')
    show (B++(Hl' :: (oth [j] Ts.length).filterMap (Ts[·]?)).flatten).Perm _
    rw [List.flatten_cons,<- List.append_assoc,<- List.append_assoc]
    exact List.Perm.append_right _ List.perm_append_comm
theorem RDO.app {i:Nat} (ix:List Nat) (ok:EncOk e P T inf z) (l src:List α) (j p:Nat) {A:Option Addr} {n cap:Nat} {Hl:HL} (hn:n=l.length) (hsl:SlIs e T l A cap Hl) (hb:l.length+src.length <= 100000000)
    (hk:∀ (A':Option Addr) (cap':Nat) (Hl':HL),(SlIs e T (l++src) A' cap' Hl' /\ (zeroOff A -> zeroOff A')) -> RD r P N D F w0 R hards Rd (rpC j Hl' (dpC N i (.slice A' (n+src.length) cap') s)) Q)
    (h:appK P N j p (opAtD i s) s=some (A,n,cap,T,src.length,cellsE e src,Hl,appX p s):=by kernel_rfl) (hx:(hards.contains i,rdOf ix s)=(true,Rd):=by kernel_rfl):RDO r P N D F w0 R hards Rd i s Q:=by
  obtain ⟨o,a1,a2,t,tx,e',c',b,ty,fz,q0,q1,q2,q3,q4,q5,q6,q7,q8,q9,q10,q11⟩:=appK_spec h
  obtain ⟨c,k,L,B,Ts⟩:=s
  unfold opAtD at q0
  simp only [Prod.mk.injEq] at hx
  cases c with
  | code c=>cases q0
  | ex c=>cases q0
  | ops _ _=>cases q0
  | drw ops li =>
    refine ⟨λ hR=>?_⟩
    simp only at q0 q3 q4 q5 q8 q9 q10 q11
    have hperm:=tail_perm (A:=B) q9 q10
    have hpc:∀ v L',putL N o.dst v L=some L' -> dpC N i v ⟨.drw ops li,k,L,B,Ts⟩=⟨.drw ops (setAt li i true),k,L',B,Ts⟩:=by
      intro v L' hl
      unfold dpC
      simp only [q0,hl]
    refine (RDO.give (Q:=Q) (by simpa using q0) (σ:=Option Addr × Nat × HL) (λ u y=>u=.slice y.1 (n+src.length) y.2.1 /\ (SlIs e T (l++src) y.1 y.2.1 y.2.2 /\ (zeroOff A -> zeroOff y.1))) (λ y=>ap B (y.2.2 :: (oth [j] Ts.length).filterMap (Ts[·]?))) q11 (λ a hF=>⟨by simp [Region.wanted,q1],λ w hRel hB=>?_⟩) (λ y=>⟨λ hi=>?_,λ hi x hm=>List.mem_append_left _ (rd_in ix hx.2 x hm)⟩) ?_:RDO r P N D F w0 R hards Rd i ⟨.drw ops li,k,L,B,Ts⟩ Q).h hR
    · refine gives_mono (app_gives (x:=vS b 0 src.length c') (src:=src) (G:=B++((oth [j] Ts.length).filterMap (Ts[·]?)).flatten) ok q2 q6 q3 q4 hn q5 hperm hsl (λ w hw=>src_lit ok q7 p (by rw [List.getElem?_append_left (List.getElem?_eq_some_iff.1 q8).1];exact q8) hw) hb a hF w hRel) ?_
      rintro u w' ⟨y,h3,hR',hB'⟩
      refine ⟨y,h3,hR'.perm (List.Perm.append_right F ?_),hB'⟩
      show (B++(y.2.2 :: (oth [j] Ts.length).filterMap (Ts[·]?)).flatten).Perm _
      rw [List.flatten_cons,<- List.append_assoc,<- List.append_assoc]
      exact List.Perm.append_right _ List.perm_append_comm
    · exact absurd (List.contains_iff_mem.1 hx.1) hi
    · rintro u ⟨A',cap',Hl'⟩ ⟨rfl,h3⟩ L' hl hs
      have h1:=(hk A' cap' Hl' h3).h hR
      rw [hpc _ L' hl] at h1
      exact h1 hs
end
end Go.Proofs.YtkhifpbokgabbaaGreatDoor
