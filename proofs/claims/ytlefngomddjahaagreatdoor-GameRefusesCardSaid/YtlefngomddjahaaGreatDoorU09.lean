/- Contracts, printed by a program. -/
import Derived.Test.YtlefngomddjahaaGreatDoorU08
import Derived.Test.YtlefngomddjahaaGreatDoorProg
import Derived.Shelf.Small.Bits
import Derived.Shelf.Small.Strs
import Derived.Shelf.Strconv.Itoa0
import Derived.Shelf.Strings.Search1
namespace Go.Proofs.YtlefngomddjahaaGreatDoor
set_option linter.unusedSimpArgs false
set_option linter.unusedVariables false
open Go.RowKit
abbrev w64 (n : Int) : Int := IntKind.i64.wrap n
structure V2 where (x y : Int)
structure Bx where (x0 y0 x1 y1 : Int)
structure Mot where (px py vx vy inv : Int)
structure Con where (nx ny d : Int)
def clampI (n lo hi : Int) : Int := if n < lo then lo else if n > hi then hi else n
def fdivI (a b : Int) : Int := if b = 0 then 0 else if (a.tmod b > 0 ∧ b < 0) ∨ (a.tmod b < 0 ∧ b > 0) then w64 (w64 (a.tdiv b) - 1) else w64 (a.tdiv b)
def mulI (a b : Int) : Int := fdivI (w64 (a * b)) 1024
def mulDivI (a b c : Int) : Int := fdivI (w64 (a * b)) c
def absI (n : Int) : Int := if n < 0 then w64 (0 - n) else n

set_option maxHeartbeats 400000 in
set_option maxRecDepth 100000 in
theorem clamp_any (n : Int) (lo : Int) (hi : Int)  (F : HL) : Sp Tryz.prog 119 #[vI n, vI lo, vI hi] [] F (fun u H' => u = vI (clampI n lo hi) ∧ H' = []) := by
  refine Sp.run Tryz.func119 rfl mn (A := []) (Ts := []) rfl fun w0 => ?_
  refine RN.go 15 [] fun _ => RN.em (n < lo) 7 (fun h1 => ?_) fun h1 => ?_
  · refine RN.go 7 [] fun _ => RN.ret [] [] [] (v := vI lo) (H' := []) ?_
    exact ⟨by unfold clampI; simp [*], rfl⟩
  · refine RN.go 9 [] fun _ => RN.em (n > hi) 12 (fun h2 => ?_) fun h2 => ?_
    · refine RN.go 7 [] fun _ => RN.ret [] [] [] (v := vI hi) (H' := []) ?_
      exact ⟨by unfold clampI; simp [*], rfl⟩
    · refine RN.go 10 [] fun _ => RN.ret [] [] [] (v := vI n) (H' := []) ?_
      exact ⟨by unfold clampI; simp [*], rfl⟩

set_option maxHeartbeats 400000 in
set_option maxRecDepth 100000 in
theorem floorDiv_any (a : Int) (b : Int)  (F : HL) : Sp Tryz.prog 186 #[vI a, vI b] [] F (fun u H' => u = vI (fdivI a b) ∧ H' = []) := by
  refine Sp.run Tryz.func186 rfl mn (A := []) (Ts := []) rfl fun w0 => ?_
  refine RN.go 12 [] fun _ => RN.em (b = 0) 8 (fun h1 => ?_) fun h1 => ?_
  · refine RN.go 6 [] fun _ => RN.ret [] [] [] (v := vI 0) (H' := []) ?_
    exact ⟨by unfold fdivI; simp [*], rfl⟩
  · refine RN.go 4 [] fun _ => RN.draw [] [] <| RD.goP [] [0, 1, 3, 4, 2, 5, 6, 7] [.dv, .dv] [b ≠ 0, b ≠ 0] <| RD.fin <| RN.go 13 [] fun _ => RN.em (a.tmod b > 0) 18 (fun h2 => ?_) fun h2 => ?_
    · refine RN.go 6 [] fun _ => RN.em (b < 0) 15 (fun h3 => ?_) fun h3 => ?_
      · refine RN.go 23 [] fun _ => RN.ret [] [] [] (v := vI (IntKind.i64.wrap ((IntKind.i64.wrap (a.tdiv b)) - 1))) (H' := []) ?_
        exact ⟨by unfold fdivI; simp [*], rfl⟩
      · refine RN.go 8 [] fun _ => RN.em (a.tmod b < 0) 25 (fun h4 => ?_) fun h4 => ?_
        · refine RN.go 6 [] fun _ => RN.em (b > 0) 22 (fun h5 => ?_) fun h5 => ?_
          · refine RN.go 22 [] fun _ => RN.ret [] [] [] (v := vI (IntKind.i64.wrap ((IntKind.i64.wrap (a.tdiv b)) - 1))) (H' := []) ?_
            exact ⟨by unfold fdivI; simp [*], rfl⟩
          · refine RN.go 15 [] fun _ => RN.ret [] [] [] (v := vI (IntKind.i64.wrap (a.tdiv b))) (H' := []) ?_
            exact ⟨by unfold fdivI; simp [*], rfl⟩
        · refine RN.go 21 [] fun _ => RN.ret [] [] [] (v := vI (IntKind.i64.wrap (a.tdiv b))) (H' := []) ?_
          exact ⟨by unfold fdivI; simp [*], rfl⟩
    · refine RN.go 14 [] fun _ => RN.em (a.tmod b < 0) 25 (fun h6 => ?_) fun h6 => ?_
      · refine RN.go 6 [] fun _ => RN.em (b > 0) 22 (fun h7 => ?_) fun h7 => ?_
        · refine RN.go 22 [] fun _ => RN.ret [] [] [] (v := vI (IntKind.i64.wrap ((IntKind.i64.wrap (a.tdiv b)) - 1))) (H' := []) ?_
          exact ⟨by unfold fdivI; simp [*], rfl⟩
        · refine RN.go 15 [] fun _ => RN.ret [] [] [] (v := vI (IntKind.i64.wrap (a.tdiv b))) (H' := []) ?_
          exact ⟨by unfold fdivI; simp [*], rfl⟩
      · refine RN.go 21 [] fun _ => RN.ret [] [] [] (v := vI (IntKind.i64.wrap (a.tdiv b))) (H' := []) ?_
        exact ⟨by unfold fdivI; simp [*], rfl⟩

set_option maxHeartbeats 400000 in
set_option maxRecDepth 100000 in
theorem mul_any (a : Int) (b : Int)  (F : HL) : Sp Tryz.prog 149 #[vI a, vI b] [] F (fun u H' => u = vI (mulI a b) ∧ H' = []) := by
  refine Sp.run Tryz.func149 rfl mn (A := []) (Ts := []) rfl fun w0 => ?_
  refine RN.go 10 [] fun _ => RN.cp (floorDiv_any (IntKind.i64.wrap (a * b)) 1024  _) <| RN.go 3 [] fun _ => ?_
  exact RN.ret [] [] [] ⟨rfl, rfl⟩

set_option maxHeartbeats 400000 in
set_option maxRecDepth 100000 in
theorem mulDiv_any (a : Int) (b : Int) (c : Int)  (F : HL) : Sp Tryz.prog 195 #[vI a, vI b, vI c] [] F (fun u H' => u = vI (mulDivI a b c) ∧ H' = []) := by
  refine Sp.run Tryz.func195 rfl mn (A := []) (Ts := []) rfl fun w0 => ?_
  refine RN.go 11 [] fun _ => RN.cp (floorDiv_any (IntKind.i64.wrap (a * b)) c  _) <| RN.go 3 [] fun _ => ?_
  exact RN.ret [] [] [] ⟨rfl, rfl⟩
end Go.Proofs.YtlefngomddjahaaGreatDoor
/-
  DERIVED: THE SHELF's CONTRACTS AT THIS DUMP, IN PLAIN WORDS (tools/lay-plain.mjs out of 'TryzShelf.lean', which tools/lay-shelf.mjs wrote): THE SAME DECLARATIONS UNDER THE SAME NAMES: 'import', 'namespace', 'open', 'def', 'theorem' AND NOTHING ELSE: no command of the shelf's: FOR A HAND-IN. Each laying: the table of numbers ('.._ren') and one theorem, a field a fact of the dump's own or the kernel's comparison; each contract: ONE APPLICATION.
-/
namespace Go.Proofs
open Go.Shelf
def Tryz.lays128_ren : Go.Shelf.Ren := ⟨fun | 128 => 156 | n => n, fun | 51 => 254 | 3 => 3 | 4 => 4 | 46 => 200 | 5 => 5 | 9 => 9 | n => n, fun | n => n⟩
theorem Tryz.lays128 : Go.Proofs.Lays.n128 Tryz.prog Tryz.lays128_ren := {
  mixed := by kernel_rfl
  f128 := Tryz.func156.trans (congrArg some (by kernel_rfl))
  t3 := Tryz.underlying3
  a3 := Tryz.isAgg3
  z3 := Tryz.sizeOf3
  v3 := Tryz.zeroValue3
  t4 := Tryz.underlying4
  a4 := Tryz.isAgg4
  z4 := Tryz.sizeOf4
  v4 := Tryz.zeroValue4
  t5 := Tryz.underlying5
  a5 := Tryz.isAgg5
  z5 := Tryz.sizeOf5
  v5 := Tryz.zeroValue5
  t9 := Tryz.underlying9
  a9 := Tryz.isAgg9
  z9 := Tryz.sizeOf9
  v9 := Tryz.zeroValue9
  t46 := Tryz.underlying200
  a46 := Tryz.isAgg200
  z46 := Tryz.sizeOf200
  v46 := Tryz.zeroValue200
  t51 := Tryz.underlying254
  a51 := Tryz.isAgg254
  z51 := Tryz.sizeOf254
  v51 := Tryz.zeroValue254 }
/-- bits.Len32: "Len32 returns the minimum number of bits required to represent x; the result is 0 for x == 0.": IT RETURNS 'Lib.bitLen x'; the world is as it was. ('h0', 'h1': x is a uint32.) (LAID: no walk: one application.) -/
theorem Tryz.bits_Len32 (x : Int) (w : World) (h0 : 0 ≤ x) (h1 : x ≤ 4294967295) :
    Calls Tryz.prog 156 #[.int .u32 x] w fun e w' => e = .returned (.int .i64 (Lib.bitLen x.toNat)) ∧ w' = w := Any.bits_Len32 Tryz.lays128 x w h0 h1
def Tryz.lays125_ren : Go.Shelf.Ren := ⟨fun | 125 => 125 | 128 => 156 | 129 => 157 | n => n, fun | 46 => 200 | 3 => 3 | 51 => 254 | 53 => 69 | 4 => 4 | 5 => 5 | 9 => 9 | n => n, fun | n => n⟩
theorem Tryz.lays125 : Go.Proofs.Lays.n125 Tryz.prog Tryz.lays125_ren := {
  mixed := by kernel_rfl
  f125 := Tryz.func125.trans (congrArg some (by kernel_rfl))
  f128 := Tryz.func156.trans (congrArg some (by kernel_rfl))
  f129 := Tryz.func157.trans (congrArg some (by kernel_rfl))
  t3 := Tryz.underlying3
  a3 := Tryz.isAgg3
  z3 := Tryz.sizeOf3
  v3 := Tryz.zeroValue3
  t4 := Tryz.underlying4
  a4 := Tryz.isAgg4
  z4 := Tryz.sizeOf4
  v4 := Tryz.zeroValue4
  t5 := Tryz.underlying5
  a5 := Tryz.isAgg5
  z5 := Tryz.sizeOf5
  v5 := Tryz.zeroValue5
  t9 := Tryz.underlying9
  a9 := Tryz.isAgg9
  z9 := Tryz.sizeOf9
  v9 := Tryz.zeroValue9
  t46 := Tryz.underlying200
  a46 := Tryz.isAgg200
  z46 := Tryz.sizeOf200
  v46 := Tryz.zeroValue200
  t51 := Tryz.underlying254
  a51 := Tryz.isAgg254
  z51 := Tryz.sizeOf254
  v51 := Tryz.zeroValue254
  t53 := Tryz.underlying69
  a53 := Tryz.isAgg69
  z53 := Tryz.sizeOf69
  v53 := Tryz.zeroValue69 }
/-- bits.Len: "Len returns the minimum number of bits required to represent x; the result is 0 for x == 0.": IT RETURNS 'Lib.bitLen x'; the world is as it was. (A uint has 64 bits in the model.) ITS CALLEE bits.Len64 IS MET BY ITS OWN CONTRACT OFF THE SHELF (lay that first). (LAID: no walk: one application.) -/
theorem Tryz.bits_Len (x : Int) (w : World) (h0 : 0 ≤ x) (h1 : x ≤ 18446744073709551615) :
    Calls Tryz.prog 125 #[.int .u64 x] w fun e w' => e = .returned (.int .i64 (Lib.bitLen x.toNat)) ∧ w' = w := Any.bits_Len Tryz.lays125 x w h0 h1
def Tryz.lays137_ren : Go.Shelf.Ren := ⟨fun | 137 => 209 | 217 => 228 | 266 => 264 | n => n, fun | 9 => 9 | 5 => 5 | 3 => 3 | n => n, fun | n => n⟩
theorem Tryz.lays137 : Go.Proofs.Lays.n137 Tryz.prog Tryz.lays137_ren := {
  mixed := by kernel_rfl
  f137 := Tryz.func209.trans (congrArg some (by kernel_rfl))
  f217 := Tryz.func228.trans (congrArg some (by kernel_rfl))
  f266 := Tryz.func264.trans (congrArg some (by kernel_rfl))
  t3 := Tryz.underlying3
  a3 := Tryz.isAgg3
  z3 := Tryz.sizeOf3
  v3 := Tryz.zeroValue3
  t5 := Tryz.underlying5
  a5 := Tryz.isAgg5
  z5 := Tryz.sizeOf5
  v5 := Tryz.zeroValue5
  t9 := Tryz.underlying9
  a9 := Tryz.isAgg9
  z9 := Tryz.sizeOf9
  v9 := Tryz.zeroValue9 }
open Go.RowKit in
/-- strings.IndexByte: "IndexByte returns the index of the first instance of c in s, or -1 if c is not present in s.": IT RETURNS 'Lib.indexByte s c'; the world is as it was. (LAID: no walk: one application.) -/
theorem Tryz.strings_IndexByte (s : ByteArray) (c : Int) (w : World) :
    Calls Tryz.prog 209 #[.string s, .int .u8 c] w fun e w' => e = .returned (.int .i64 (Lib.indexByte s.data.toList c.toNat.toUInt8)) ∧ w' = w := Any.strings_IndexByte Tryz.lays137 s c w
def Tryz.lays129_ren : Go.Shelf.Ren := ⟨fun | 129 => 157 | n => n, fun | 53 => 69 | 3 => 3 | 4 => 4 | 46 => 200 | 5 => 5 | 9 => 9 | n => n, fun | n => n⟩
theorem Tryz.lays129 : Go.Proofs.Lays.n129 Tryz.prog Tryz.lays129_ren := {
  mixed := by kernel_rfl
  f129 := Tryz.func157.trans (congrArg some (by kernel_rfl))
  t3 := Tryz.underlying3
  a3 := Tryz.isAgg3
  z3 := Tryz.sizeOf3
  v3 := Tryz.zeroValue3
  t4 := Tryz.underlying4
  a4 := Tryz.isAgg4
  z4 := Tryz.sizeOf4
  v4 := Tryz.zeroValue4
  t5 := Tryz.underlying5
  a5 := Tryz.isAgg5
  z5 := Tryz.sizeOf5
  v5 := Tryz.zeroValue5
  t9 := Tryz.underlying9
  a9 := Tryz.isAgg9
  z9 := Tryz.sizeOf9
  v9 := Tryz.zeroValue9
  t46 := Tryz.underlying200
  a46 := Tryz.isAgg200
  z46 := Tryz.sizeOf200
  v46 := Tryz.zeroValue200
  t53 := Tryz.underlying69
  a53 := Tryz.isAgg69
  z53 := Tryz.sizeOf69
  v53 := Tryz.zeroValue69 }
/-- bits.Len64: "Len64 returns the minimum number of bits required to represent x; the result is 0 for x == 0.": IT RETURNS 'Lib.bitLen x'; the world is as it was. ('h0', 'h1': x is a uint64.) (LAID: no walk: one application.) -/
theorem Tryz.bits_Len64 (x : Int) (w : World) (h0 : 0 ≤ x) (h1 : x ≤ 18446744073709551615) :
    Calls Tryz.prog 157 #[.int .u64 x] w fun e w' => e = .returned (.int .i64 (Lib.bitLen x.toNat)) ∧ w' = w := Any.bits_Len64 Tryz.lays129 x w h0 h1
def Tryz.lays217_ren : Go.Shelf.Ren := ⟨fun | 217 => 228 | 266 => 264 | n => n, fun | 9 => 9 | 5 => 5 | 3 => 3 | n => n, fun | n => n⟩
theorem Tryz.lays217 : Go.Proofs.Lays.n217 Tryz.prog Tryz.lays217_ren := {
  mixed := by kernel_rfl
  f217 := Tryz.func228.trans (congrArg some (by kernel_rfl))
  f266 := Tryz.func264.trans (congrArg some (by kernel_rfl))
  t3 := Tryz.underlying3
  a3 := Tryz.isAgg3
  z3 := Tryz.sizeOf3
  v3 := Tryz.zeroValue3
  t5 := Tryz.underlying5
  a5 := Tryz.isAgg5
  z5 := Tryz.sizeOf5
  v5 := Tryz.zeroValue5
  t9 := Tryz.underlying9
  a9 := Tryz.isAgg9
  z9 := Tryz.sizeOf9
  v9 := Tryz.zeroValue9 }
open Go.RowKit Go.Lib in
/-- internal/stringslite.IndexByte (what strings.IndexByte calls): IT RETURNS 'Lib.indexByte s c'; the world is as it was. (LAID: no walk: one application.) -/
theorem Tryz.stringslite_IndexByte (s : ByteArray) (c : Int) (w : World) :
    Calls Tryz.prog 228 #[.string s, .int .u8 c] w fun e w' => e = .returned (.int .i64 (Lib.indexByte s.data.toList c.toNat.toUInt8)) ∧ w' = w := Any.stringslite_IndexByte Tryz.lays217 s c w
end Go.Proofs
/- Contracts, printed by a program. -/
namespace Go.Proofs.YtlefngomddjahaaGreatDoor
set_option linter.unusedSimpArgs false
set_option linter.unusedVariables false
open Go.RowKit
abbrev w64u (n : Int) : Int := IntKind.u64.wrap n
theorem w64u_bd (n : Int) : 0 ≤ w64u n ∧ w64u n ≤ 18446744073709551615 := by
  show 0 ≤ IntKind.u64.wrap n ∧ IntKind.u64.wrap n ≤ _
  unfold IntKind.wrap
  simp [IntKind.signed, IntKind.bits]
  omega
abbrev blen (n : Int) : Int := (Lib.bitLen (w64u n).toNat : Int)
theorem blen_any (n : Int) (F : HL) : Sp Tryz.prog 125 #[.int .u64 (w64u n)] [] F (fun u H' => u = vI (blen n) ∧ H' = []) :=
  Sp.of_calls (fun w => Tryz.bits_Len _ w (w64u_bd n).1 (w64u_bd n).2) F
theorem blen_bd (n : Int) : 0 ≤ blen n ∧ blen n ≤ 64 := by
  have h := w64u_bd n
  have := Lib.bitLen_le (w64u n).toNat 64 (by omega) (by omega)
  unfold blen
  omega
def sqN (r : Int) (k : Nat) : Int := w64 ((BitVec.ofInt 64 r ||| BitVec.ofInt 64 (w64 (1 * 2 ^ min k 64))).toNat : Int)
def isqL (n : Int) : Nat → Int → Int
  | 0, r => r
  | k + 1, r => isqL n k (if sqN r k > w64 (n.tdiv (sqN r k)) then r else sqN r k)
def isqS (n : Int) : Int := w64 (w64 ((w64 (blen n + 1)).tdiv 2) - 1)
def isqrtI (n : Int) : Int := if n ≤ 0 then 0 else isqL n (isqS n + 1).toNat 0
theorem w64z (v : BitVec 64) (h : w64 (v.toNat : Int) = 0) : v = 0#64 := by
  apply BitVec.eq_of_toNat_eq
  have h2 : v.toNat < 18446744073709551616 := v.isLt
  generalize v.toNat = m at *
  rw [w64, IntKind.wrap_i64] at h
  simp
  omega
theorem sqN_ne (r : Int) {k : Nat} (hk : k < 40) : sqN r k ≠ 0 := by
  intro h
  have hb : BitVec.ofInt 64 (w64 (1 * 2 ^ min k 64)) ≠ 0#64 := by
    have : ∀ k < 40, BitVec.ofInt 64 (w64 (1 * 2 ^ min k 64)) ≠ 0#64 := by decide
    exact this k hk
  have h1 := w64z _ h
  clear h
  generalize BitVec.ofInt 64 (w64 (1 * 2 ^ min k 64)) = b at *
  generalize BitVec.ofInt 64 r = a at *
  apply hb
  have : (a ||| b) &&& b = b := by
    apply BitVec.eq_of_getLsbD_eq
    intro i hi
    simp
    intro h
    exact .inr h
  rw [h1] at this
  simpa using this.symm
theorem isqS_bd (n : Int) : -1 ≤ isqS n ∧ isqS n ≤ 31 := by
  have := blen_bd n
  unfold isqS w64
  generalize blen n = l at *
  have e1 : IntKind.i64.wrap (l + 1) = l + 1 := by rw [IntKind.wrap_i64]; omega
  rw [e1, Int.tdiv_eq_ediv_of_nonneg (by omega)]
  have e2 : IntKind.i64.wrap ((l + 1) / 2) = (l + 1) / 2 := by rw [IntKind.wrap_i64]; omega
  rw [e2, IntKind.wrap_i64]
  omega
theorem w64_id {x : Int} (h : -9223372036854775808 ≤ x ∧ x ≤ 9223372036854775807) : w64 x = x := by
  rw [w64, IntKind.wrap_i64]; omega
theorem isq_next {n r s : Int} {k : Int} (h0 : ¬ s < 0) (h : isqL n (s + 1).toNat r = k) : isqL n s.toNat (if sqN r s.toNat > w64 (n.tdiv (sqN r s.toNat)) then r else sqN r s.toNat) = k := by
  have e : (s + 1).toNat = s.toNat + 1 := by omega
  rw [e, isqL] at h
  exact h

set_option maxHeartbeats 400000 in
set_option maxRecDepth 100000 in
theorem isqrt_any (n : Int)  (F : HL) : Sp Tryz.prog 272 #[vI n] [] F (fun u H' => u = vI (isqrtI n) ∧ H' = []) := by
  refine Sp.run Tryz.func272 rfl mn (A := []) (Ts := []) rfl fun w0 => ?_
  refine RN.go 13 [] fun _ => RN.em (n ≤ 0) 7 (fun h1 => ?_) fun h1 => ?_
  · refine RN.go 6 [] fun _ => RN.ret [] [] [] (v := vI 0) (H' := []) ?_
    refine ⟨?_, rfl⟩
    unfold isqrtI
    first | (simp [*]; done) | (have e : (s + 1).toNat = 0 := by omega); (rw [e, isqL] at hI2); (simp [*])
  · refine RN.go 16 [] fun _ => RN.cp (blen_any n _) <| RN.go 7 [] fun _ => RN.loop (σ := Int × Int) (fun ⟨r, s⟩ => ⟨[(0, vI n), (3, vI r), (4, vI s)], [], [], -1 ≤ s ∧ s ≤ 31 ∧ isqL n (s + 1).toNat r = isqL n (isqS n + 1).toNat 0, (s + 1).toNat⟩) (0, isqS n) [] [] (⟨(isqS_bd n).1, (isqS_bd n).2, rfl⟩) ?_
    rintro ⟨r, s⟩ ⟨hI0, hI1, hI2⟩ mt3
    have hw : s ≥ 0 → IntKind.i64.wrap (s - 1) = s - 1 := fun _ => w64_id (by omega)
    have hsub : (s - 1 + 1).toNat = s.toNat := by rw [Int.sub_add_cancel]
    refine RN.go 7 [] fun _ => RN.em (s ≥ 0) 15 (fun h4 => ?_) fun h4 => ?_
    · refine RN.goO 24 [.dv, .gen, .dv] (fun _ => [IntKind.i64.wrap ((BitVec.ofInt 64 r ||| BitVec.ofInt 64 (IntKind.i64.wrap (1 * 2 ^ min (s).toNat 64))).toNat : Int) ≠ 0, 0 ≤ s]) (fun _ => (ac (sqN_ne r (by omega)) (ac (by omega) an))) fun _ => RN.em (IntKind.i64.wrap ((BitVec.ofInt 64 r ||| BitVec.ofInt 64 (IntKind.i64.wrap (1 * 2 ^ min (s).toNat 64))).toNat : Int) > IntKind.i64.wrap (n.tdiv (IntKind.i64.wrap ((BitVec.ofInt 64 r ||| BitVec.ofInt 64 (IntKind.i64.wrap (1 * 2 ^ min (s).toNat 64))).toNat : Int)))) 26 (fun h5 => ?_) fun h5 => ?_
      · refine RN.go 10 [] fun _ => ?_
        refine mt3 (r, IntKind.i64.wrap (s - 1)) [] [] ?_
        try dsimp only
        have hN := isq_next (by omega) hI2
        rw [hw (by assumption), hsub]
        refine ⟨⟨by omega, by omega, ?_⟩, by omega⟩
        simpa only [sqN, *, if_true, if_false] using hN
      · refine RN.go 14 [] fun _ => ?_
        refine mt3 (IntKind.i64.wrap ((BitVec.ofInt 64 r ||| BitVec.ofInt 64 (IntKind.i64.wrap (1 * 2 ^ min (s).toNat 64))).toNat : Int), IntKind.i64.wrap (s - 1)) [] [] ?_
        try dsimp only
        have hN := isq_next (by omega) hI2
        rw [hw (by assumption), hsub]
        refine ⟨⟨by omega, by omega, ?_⟩, by omega⟩
        simpa only [sqN, *, if_true, if_false] using hN
    · refine RN.go 12 [] fun _ => RN.ret [] [] [] (v := vI r) (H' := []) ?_
      refine ⟨?_, rfl⟩
      unfold isqrtI
      first | (simp [*]; done) | (have e : (s + 1).toNat = 0 := by omega); (rw [e, isqL] at hI2); (simp [*])
end Go.Proofs.YtlefngomddjahaaGreatDoor
/- Contracts, printed by a program. -/
namespace Go.Proofs.YtlefngomddjahaaGreatDoor
set_option linter.unusedSimpArgs false
set_option linter.unusedVariables false
open Go.RowKit
def vadd (a b : V2) : V2 := ⟨w64 (a.x + b.x), w64 (a.y + b.y)⟩
def vsub (a b : V2) : V2 := ⟨w64 (a.x - b.x), w64 (a.y - b.y)⟩
def vneg (a : V2) : V2 := vsub ⟨0, 0⟩ a
def vscale (a : V2) (f : Int) : V2 := ⟨mulI a.x f, mulI a.y f⟩
def vmuldiv (a : V2) (n d : Int) : V2 := ⟨mulDivI a.x n d, mulDivI a.y n d⟩
def floorI (n : Int) : Int := n.fdiv 1024
def vdot (a b : V2) : Int := floorI (w64 (w64 (a.x * b.x) + w64 (a.y * b.y)))
def vlen (a : V2) : Int := isqrtI (w64 (w64 (a.x * a.x) + w64 (a.y * a.y)))
def vzero (a : V2) : Prop := a.x = 0 ∧ a.y = 0
instance (a : V2) : Decidable (vzero a) := inferInstanceAs (Decidable (_ ∧ _))
def vnorm (a : V2) : V2 := if vzero a then a else vmuldiv a 1024 (vlen a)

set_option maxHeartbeats 400000 in
set_option maxRecDepth 100000 in
theorem adds_any (m n : Int) (F : HL) : Sp Tryz.prog 147 #[vI m, vI n] [] F (fun u H' => u = vI (w64 (m + n)) ∧ H' = []) := by
  refine Sp.run Tryz.func147 rfl mn (A := []) (Ts := []) rfl fun w0 => ?_
  refine RN.go 13 [] fun _ => ?_
  exact RN.ret [] [] [] ⟨rfl, rfl⟩

set_option maxHeartbeats 400000 in
set_option maxRecDepth 100000 in
theorem subs_any (m n : Int) (F : HL) : Sp Tryz.prog 226 #[vI m, vI n] [] F (fun u H' => u = vI (w64 (m - n)) ∧ H' = []) := by
  refine Sp.run Tryz.func226 rfl mn (A := []) (Ts := []) rfl fun w0 => ?_
  refine RN.go 13 [] fun _ => ?_
  exact RN.ret [] [] [] ⟨rfl, rfl⟩

set_option maxHeartbeats 400000 in
set_option maxRecDepth 100000 in
theorem mulDiv1_any (m n d : Int) (b : Nat) (F : HL) (hb : (b, .lit [vI d] 3 (0, 0)) ∈ F) : Sp Tryz.prog 203 #[vI m, vI n, vP b 0] [] F (fun u H' => u = vI (mulDivI m n d) ∧ H' = []) := by
  refine Sp.run Tryz.func203 rfl (mc hb mn) (A := []) (Ts := []) rfl fun w0 => ?_
  refine RN.go 10 [.ro 0] fun _ => RN.cp (mulDiv_any m n d  _) <| RN.go 3 [] fun _ => ?_
  exact RN.ret [] [] [] ⟨rfl, rfl⟩

set_option maxHeartbeats 400000 in
set_option maxRecDepth 100000 in
theorem comb_add (a b : V2)  (F : HL) : Sp Tryz.prog 146 #[.agg #[vI a.x, vI a.y], .agg #[vI b.x, vI b.y], .func (.func 147) #[] #[]] [] F (fun u H' => u = .agg #[vI ((vadd a b).x), vI ((vadd a b).y)] ∧ H' = []) := by
  refine Sp.run Tryz.func146 rfl mn (A := []) (Ts := []) rfl fun w0 => ?_
  refine RN.go 8 [] fun n1 => RN.draw [13] [] <| RD.go [] [0, 1, 3, 6, 7, 9, 2, 4, 8, 10] [.own 2, .own 1, .own 2, .own 1] <| RD.cp [] 5 (fun X_ => (adds_any a.x b.x _)) <| RD.cp [] 11 (fun X_ => (adds_any a.y b.y _)) <| RD.go [] [12] [] <| RD.one 13 (RDO.ev [] [.own 0, .own 0] fun _ => ?_)
  refine RD.fin <| RN.go 1 [] fun _ => ?_
  exact RN.ret [.own 0, .own 0] [] [] ⟨rfl, rfl⟩

set_option maxHeartbeats 400000 in
set_option maxRecDepth 100000 in
theorem comb_sub (a b : V2)  (F : HL) : Sp Tryz.prog 146 #[.agg #[vI a.x, vI a.y], .agg #[vI b.x, vI b.y], .func (.func 226) #[] #[]] [] F (fun u H' => u = .agg #[vI ((vsub a b).x), vI ((vsub a b).y)] ∧ H' = []) := by
  refine Sp.run Tryz.func146 rfl mn (A := []) (Ts := []) rfl fun w0 => ?_
  refine RN.go 8 [] fun n1 => RN.draw [13] [] <| RD.go [] [0, 1, 3, 6, 7, 9, 2, 4, 8, 10] [.own 2, .own 1, .own 2, .own 1] <| RD.cp [] 5 (fun X_ => (subs_any a.x b.x _)) <| RD.cp [] 11 (fun X_ => (subs_any a.y b.y _)) <| RD.go [] [12] [] <| RD.one 13 (RDO.ev [] [.own 0, .own 0] fun _ => ?_)
  refine RD.fin <| RN.go 1 [] fun _ => ?_
  exact RN.ret [.own 0, .own 0] [] [] ⟨rfl, rfl⟩

set_option maxHeartbeats 400000 in
set_option maxRecDepth 100000 in
theorem comb_mul (a b : V2)  (F : HL) : Sp Tryz.prog 146 #[.agg #[vI a.x, vI a.y], .agg #[vI b.x, vI b.y], .func (.func 149) #[] #[]] [] F (fun u H' => u = .agg #[vI ((⟨mulI a.x b.x, mulI a.y b.y⟩ : V2).x), vI ((⟨mulI a.x b.x, mulI a.y b.y⟩ : V2).y)] ∧ H' = []) := by
  refine Sp.run Tryz.func146 rfl mn (A := []) (Ts := []) rfl fun w0 => ?_
  refine RN.go 8 [] fun n1 => RN.draw [13] [] <| RD.go [] [0, 1, 3, 6, 7, 9, 2, 4, 8, 10] [.own 2, .own 1, .own 2, .own 1] <| RD.cp [] 5 (fun X_ => (mul_any a.x b.x  _)) <| RD.cp [] 11 (fun X_ => (mul_any a.y b.y  _)) <| RD.go [] [12] [] <| RD.one 13 (RDO.ev [] [.own 0, .own 0] fun _ => ?_)
  refine RD.fin <| RN.go 1 [] fun _ => ?_
  exact RN.ret [.own 0, .own 0] [] [] ⟨rfl, rfl⟩

set_option maxHeartbeats 400000 in
set_option maxRecDepth 100000 in
theorem comb_muldiv (a b : V2) (d : Int) (q : Nat) (F : HL) (hq : (q, .lit [vI d] 3 (0, 0)) ∈ F) : Sp Tryz.prog 146 #[.agg #[vI a.x, vI a.y], .agg #[vI b.x, vI b.y], .func (.func 203) #[] #[vP q 0]] [] F (fun u H' => u = .agg #[vI ((⟨mulDivI a.x b.x d, mulDivI a.y b.y d⟩ : V2).x), vI ((⟨mulDivI a.x b.x d, mulDivI a.y b.y d⟩ : V2).y)] ∧ H' = []) := by
  refine Sp.run Tryz.func146 rfl (mc hq mn) (A := []) (Ts := []) rfl fun w0 => ?_
  refine RN.go 8 [] fun n1 => RN.draw [13] [] <| RD.go [] [0, 1, 3, 6, 7, 9, 2, 4, 8, 10] [.own 2, .own 1, .own 2, .own 1] <| RD.cp [] 5 (fun X_ => (mulDiv1_any a.x b.x d q _ (ro_apX hq))) <| RD.cp [] 11 (fun X_ => (mulDiv1_any a.y b.y d q _ (ro_apX hq))) <| RD.go [] [12] [] <| RD.one 13 (RDO.ev [] [.own 0, .own 0] fun _ => ?_)
  refine RD.fin <| RN.go 1 [] fun _ => ?_
  exact RN.ret [.own 0, .own 0] [] [] ⟨rfl, rfl⟩

set_option maxHeartbeats 400000 in
set_option maxRecDepth 100000 in
theorem uniform_any (n : Int) (F : HL) : Sp Tryz.prog 148 #[vI n] [] F (fun u H' => u = .agg #[vI n, vI n] ∧ H' = []) := by
  refine Sp.run Tryz.func148 rfl mn (A := []) (Ts := []) rfl fun w0 => ?_
  refine RN.go 13 [.own 0, .own 0] fun n1 => ?_
  exact RN.ret [.own 0, .own 0] [] [] ⟨rfl, rfl⟩

set_option maxHeartbeats 400000 in
set_option maxRecDepth 100000 in
theorem vadd_any (a : V2) (b : V2)  (F : HL) : Sp Tryz.prog 117 #[.agg #[vI a.x, vI a.y], .agg #[vI b.x, vI b.y]] [] F (fun u H' => u = .agg #[vI ((vadd a b).x), vI ((vadd a b).y)] ∧ H' = []) := by
  refine Sp.run Tryz.func117 rfl mn (A := []) (Ts := []) rfl fun w0 => ?_
  refine RN.go 11 [.own 2, .own 2, .own 1, .own 1] fun n1 => RN.cp (comb_add a b _) <| RN.go 3 [.own 0, .own 0] fun _ => ?_
  exact RN.ret [.own 0, .own 0] [] [] ⟨rfl, rfl⟩

set_option maxHeartbeats 400000 in
set_option maxRecDepth 100000 in
theorem vsub_any (a : V2) (b : V2)  (F : HL) : Sp Tryz.prog 192 #[.agg #[vI a.x, vI a.y], .agg #[vI b.x, vI b.y]] [] F (fun u H' => u = .agg #[vI ((vsub a b).x), vI ((vsub a b).y)] ∧ H' = []) := by
  refine Sp.run Tryz.func192 rfl mn (A := []) (Ts := []) rfl fun w0 => ?_
  refine RN.go 11 [.own 2, .own 2, .own 1, .own 1] fun n1 => RN.cp (comb_sub a b _) <| RN.go 3 [.own 0, .own 0] fun _ => ?_
  exact RN.ret [.own 0, .own 0] [] [] ⟨rfl, rfl⟩

set_option maxHeartbeats 400000 in
set_option maxRecDepth 100000 in
theorem vneg_any (a : V2)  (F : HL) : Sp Tryz.prog 193 #[.agg #[vI a.x, vI a.y]] [] F (fun u H' => u = .agg #[vI ((vneg a).x), vI ((vneg a).y)] ∧ H' = []) := by
  refine Sp.run Tryz.func193 rfl mn (A := []) (Ts := []) rfl fun w0 => ?_
  refine RN.go 10 [.own 1, .own 1] fun n1 => RN.cp (vsub_any (⟨0, 0⟩ : V2) a  _) <| RN.go 3 [.own 0, .own 0] fun _ => ?_
  exact RN.ret [.own 0, .own 0] [] [] ⟨rfl, rfl⟩

set_option maxHeartbeats 400000 in
set_option maxRecDepth 100000 in
theorem vscale_any (a : V2) (f : Int)  (F : HL) : Sp Tryz.prog 118 #[.agg #[vI a.x, vI a.y], vI f] [] F (fun u H' => u = .agg #[vI ((vscale a f).x), vI ((vscale a f).y)] ∧ H' = []) := by
  refine Sp.run Tryz.func118 rfl mn (A := []) (Ts := []) rfl fun w0 => ?_
  refine RN.go 7 [] fun n1 => RN.draw [4] [] <| RD.go [] [0, 1] [.own 1, .own 1] <| RD.cp [] 2 (fun X_ => (uniform_any f _)) <| RD.cp [] 3 (fun X_ => (comb_mul a (⟨f, f⟩ : V2) _)) <| RD.one 4 (RDO.ev [] [.own 0, .own 0] fun _ => ?_)
  refine RD.fin <| RN.go 1 [] fun _ => ?_
  exact RN.ret [.own 0, .own 0] [] [] ⟨rfl, rfl⟩

set_option maxHeartbeats 400000 in
set_option maxRecDepth 100000 in
theorem vmuldiv_any (a : V2) (n : Int) (d : Int)  (F : HL) : Sp Tryz.prog 154 #[.agg #[vI a.x, vI a.y], vI n, vI d] [] F (fun u H' => u = .agg #[vI ((vmuldiv a n d).x), vI ((vmuldiv a n d).y)] ∧ H' = []) := by
  refine Sp.run Tryz.func154 rfl mn (A := []) (Ts := []) rfl fun w0 => ?_
  refine RN.go 8 [] fun n1 => RN.draw [5] [] <| RD.go [] [0, 1, 3] [.own 2, .own 2] <| RD.cp [] 2 (fun X_ => (uniform_any n _)) <| RD.cp [] 4 (fun X_ => (comb_muldiv a (⟨n, n⟩ : V2) d (n1 + 1) _ (in_apX 1))) <| RD.one 5 (RDO.ev [] [.own 0, .own 0] fun _ => ?_)
  refine RD.fin <| RN.go 1 [] fun _ => ?_
  exact RN.ret [.own 0, .own 0] [] [] ⟨rfl, rfl⟩

set_option maxHeartbeats 400000 in
set_option maxRecDepth 100000 in
theorem floor_any (n : Int)  (F : HL) : Sp Tryz.prog 225 #[vI n] [] F (fun u H' => u = vI (floorI n) ∧ H' = []) := by
  refine Sp.run Tryz.func225 rfl mn (A := []) (Ts := []) rfl fun w0 => ?_
  refine RN.go 12 [] fun _ => ?_
  exact RN.ret [] [] [] ⟨rfl, rfl⟩

set_option maxHeartbeats 400000 in
set_option maxRecDepth 100000 in
theorem vdot_any (a : V2) (b : V2)  (F : HL) : Sp Tryz.prog 191 #[.agg #[vI a.x, vI a.y], .agg #[vI b.x, vI b.y]] [] F (fun u H' => u = vI (vdot a b) ∧ H' = []) := by
  refine Sp.run Tryz.func191 rfl mn (A := []) (Ts := []) rfl fun w0 => ?_
  refine RN.go 20 [.own 1, .own 0, .own 1, .own 0] fun n1 => RN.cp (floor_any (IntKind.i64.wrap ((IntKind.i64.wrap (a.x * b.x)) + (IntKind.i64.wrap (a.y * b.y))))  _) <| RN.go 3 [] fun _ => ?_
  exact RN.ret [] [] [] ⟨rfl, rfl⟩

set_option maxHeartbeats 400000 in
set_option maxRecDepth 100000 in
theorem vlen_any (a : V2)  (F : HL) : Sp Tryz.prog 269 #[.agg #[vI a.x, vI a.y]] [] F (fun u H' => u = vI (vlen a) ∧ H' = []) := by
  refine Sp.run Tryz.func269 rfl mn (A := []) (Ts := []) rfl fun w0 => ?_
  refine RN.go 19 [.own 0, .own 0, .own 0, .own 0] fun n1 => RN.cp (isqrt_any (IntKind.i64.wrap ((IntKind.i64.wrap (a.x * a.x)) + (IntKind.i64.wrap (a.y * a.y))))  _) <| RN.go 3 [] fun _ => ?_
  exact RN.ret [] [] [] ⟨rfl, rfl⟩

set_option maxHeartbeats 400000 in
set_option maxRecDepth 100000 in
theorem vnorm_any (a : V2)  (F : HL) : Sp Tryz.prog 261 #[.agg #[vI a.x, vI a.y]] [] F (fun u H' => u = .agg #[vI ((vnorm a).x), vI ((vnorm a).y)] ∧ H' = []) := by
  refine Sp.run Tryz.func261 rfl mn (A := []) (Ts := []) rfl fun w0 => ?_
  refine RN.go 14 [.own 1, .own 1, .sq] fun n1 => RN.eb ((decide (a.x = 0) && (decide (a.y = 0) && true))) 5 (fun h2 => ?_) fun h2 => ?_
  · refine RN.go 7 [.own 1, .own 1, .own 0, .own 0] fun _ => RN.ret [.own 0, .own 0] [] [] (v := .agg #[vI a.x, vI a.y]) (H' := []) ?_
    refine ⟨?_, rfl⟩
    unfold vnorm
    first | rw [if_pos (by simpa [vzero] using h2)] | rw [if_neg (by simpa [vzero] using h2)]
  · refine RN.go 4 [] fun _ => RN.draw [4] [] <| RD.go [] [0, 1] [.own 1, .own 1, .own 1, .own 1] <| RD.cp [] 2 (fun X_ => (vlen_any a  _)) <| RD.cp [] 3 (fun X_ => (vmuldiv_any a 1024 (vlen a)  _)) <| RD.one 4 (RDO.ev [] [.own 0, .own 0] fun _ => ?_)
    refine RD.fin <| RN.go 1 [] fun _ => RN.ret [.own 0, .own 0] [] [] (v := .agg #[vI ((vmuldiv a 1024 (vlen a)).x), vI ((vmuldiv a 1024 (vlen a)).y)]) (H' := []) ?_
    refine ⟨?_, rfl⟩
    unfold vnorm
    first | rw [if_pos (by simpa [vzero] using h2)] | rw [if_neg (by simpa [vzero] using h2)]
end Go.Proofs.YtlefngomddjahaaGreatDoor
