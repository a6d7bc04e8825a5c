/- Contracts, printed by a program. -/
import Derived.Test.YtpkincoclhpcgaaGreatDoorGa
import Derived.Test.YtpkincoclhpcgaaGreatDoorShelf
namespace Go.Proofs.YtpkincoclhpcgaaGreatDoor
set_option linter.unusedSimpArgs false
set_option linter.unusedVariables false
open Go.RowKit
abbrev w64u (n : Int) : Int := IntKind.u64.wrap n
theorem w64u_bd (n : Int) : 0 ≤ w64u n ∧ w64u n ≤ 18446744073709551615 := by
  show 0 ≤ IntKind.u64.wrap n ∧ IntKind.u64.wrap n ≤ _
  unfold IntKind.wrap
  simp [IntKind.signed, IntKind.bits]
  omega
abbrev blen (n : Int) : Int := (Lib.bitLen (w64u n).toNat : Int)
theorem blen_any (n : Int) (F : HL) : Sp Tryz.prog 131 #[.int .u64 (w64u n)] [] F (fun u H' => u = vI (blen n) ∧ H' = []) :=
  Sp.of_calls (fun w => Tryz.bits_Len _ w (w64u_bd n).1 (w64u_bd n).2) F
theorem blen_bd (n : Int) : 0 ≤ blen n ∧ blen n ≤ 64 := by
  have h := w64u_bd n
  have := Lib.bitLen_le (w64u n).toNat 64 (by omega) (by omega)
  unfold blen
  omega
def sqN (r : Int) (k : Nat) : Int := w64 ((BitVec.ofInt 64 r ||| BitVec.ofInt 64 (w64 (1 * 2 ^ min k 64))).toNat : Int)
def isqL (n : Int) : Nat → Int → Int
  | 0, r => r
  | k + 1, r => isqL n k (if sqN r k > w64 (n.tdiv (sqN r k)) then r else sqN r k)
def isqS (n : Int) : Int := w64 (w64 ((w64 (blen n + 1)).tdiv 2) - 1)
def isqrtI (n : Int) : Int := if n ≤ 0 then 0 else isqL n (isqS n + 1).toNat 0
theorem w64z (v : BitVec 64) (h : w64 (v.toNat : Int) = 0) : v = 0#64 := by
  apply BitVec.eq_of_toNat_eq
  have h2 : v.toNat < 18446744073709551616 := v.isLt
  generalize v.toNat = m at *
  rw [w64, IntKind.wrap_i64] at h
  simp
  omega
theorem sqN_ne (r : Int) {k : Nat} (hk : k < 40) : sqN r k ≠ 0 := by
  intro h
  have hb : BitVec.ofInt 64 (w64 (1 * 2 ^ min k 64)) ≠ 0#64 := by
    have : ∀ k < 40, BitVec.ofInt 64 (w64 (1 * 2 ^ min k 64)) ≠ 0#64 := by decide
    exact this k hk
  have h1 := w64z _ h
  clear h
  generalize BitVec.ofInt 64 (w64 (1 * 2 ^ min k 64)) = b at *
  generalize BitVec.ofInt 64 r = a at *
  apply hb
  have : (a ||| b) &&& b = b := by
    apply BitVec.eq_of_getLsbD_eq
    intro i hi
    simp
    intro h
    exact .inr h
  rw [h1] at this
  simpa using this.symm
theorem isqS_bd (n : Int) : -1 ≤ isqS n ∧ isqS n ≤ 31 := by
  have := blen_bd n
  unfold isqS w64
  generalize blen n = l at *
  have e1 : IntKind.i64.wrap (l + 1) = l + 1 := by rw [IntKind.wrap_i64]; omega
  rw [e1, Int.tdiv_eq_ediv_of_nonneg (by omega)]
  have e2 : IntKind.i64.wrap ((l + 1) / 2) = (l + 1) / 2 := by rw [IntKind.wrap_i64]; omega
  rw [e2, IntKind.wrap_i64]
  omega
theorem w64_id {x : Int} (h : -9223372036854775808 ≤ x ∧ x ≤ 9223372036854775807) : w64 x = x := by
  rw [w64, IntKind.wrap_i64]; omega
theorem isq_next {n r s : Int} {k : Int} (h0 : ¬ s < 0) (h : isqL n (s + 1).toNat r = k) : isqL n s.toNat (if sqN r s.toNat > w64 (n.tdiv (sqN r s.toNat)) then r else sqN r s.toNat) = k := by
  have e : (s + 1).toNat = s.toNat + 1 := by omega
  rw [e, isqL] at h
  exact h

set_option maxHeartbeats 400000 in
set_option maxRecDepth 100000 in
theorem isqrt_any (n : Int)  (F : HL) : Sp Tryz.prog 129 #[vI n] [] F (fun u H' => u = vI (isqrtI n) ∧ H' = []) := by
  refine Sp.of_body Tryz.func129 rfl rfl rfl [(0, vI n)] rfl ?_
  intro w0
  refine TR.convH (ap [] []) rfl ?_
  refine TR.seq ?_
  refine TR.reg ?_
  refine TL.seg0 1 [] [] [0] [(0, vI n)] (ap [] []) [] [] (fun _ => by kernel_rfl) mn an ?_
  refine TL.fin (by kernel_rfl) ?_
  refine EX.next ?_
  refine TR.scope ?_
  refine TR.seq ?_
  refine TR.seq ?_
  refine TR.reg ?_
  refine TL.seg0 2 [] [] [0, 7] [(0, vI n), (7, .bool (decide (n ≤ 0)))] (ap [] []) [] [] (fun _ => by kernel_rfl) mn an ?_
  refine TL.fin (by kernel_rfl) ?_
  refine EX.next ?_
  rcases Decidable.em (n ≤ 0) with h1 | h1
  · refine TR.yes (b := decide (n ≤ 0)) (by kernel_rfl) (by kernel_rfl) (decide_eq_true h1) ?_
    refine TR.seq ?_
    refine TR.reg ?_
    refine TL.seg0 1 [] [] [2] [(2, vI 0)] (ap [] []) [] [] (fun _ => by kernel_rfl) mn an ?_
    refine TL.fin (by kernel_rfl) ?_
    refine EX.next ?_
    refine TR.ret (A := []) (Ts := []) (by exact fun _ _ h => h) rfl rfl [] [] (vI 0) [] [] (fun _ => by kernel_rfl) mn an [] [] [] [] [] (by kernel_rfl) (by kernel_rfl) (by kernel_rfl) ?_
    refine ⟨?_, rfl⟩
    unfold isqrtI
    first | (simp [*]; done) | (have e : (s + 1).toNat = 0 := by omega); (rw [e, isqL] at hI2); (simp [*])
  · refine TR.no (b := decide (n ≤ 0)) (by kernel_rfl) (by kernel_rfl) (decide_eq_false h1) ?_
    refine TR.skip ?_
    refine EX.next ?_
    refine TR.seq ?_
    refine TR.reg ?_
    refine TL.seg0 1 [] [] [0, 3] [(0, vI n), (3, vI 0)] (ap [] []) [] [] (fun _ => by kernel_rfl) mn an ?_
    refine TL.fin (by kernel_rfl) ?_
    refine EX.next ?_
    refine TR.seq ?_
    refine TR.label ?_
    refine EX.next ?_
    refine TR.seq ?_
    refine TR.seq ?_
    refine TR.reg ?_
    let z1 := IntKind.u64.wrap n
    refine TL.seg0 2 [] [] [0, 3, 9] [(0, vI n), (3, vI 0), (9, .int .u64 z1)] (ap [] []) [] [] (fun _ => by kernel_rfl) mn an ?_
    refine TL.callp (dst := (some 10)) (f := 131) (args := #[.int .u64 z1]) (H1 := (ap [] [])) (E := []) (Ob := []) [] [] [0, 3, 10] (vI (blen n)) [(0, vI n), (3, vI 0), (10, vI (blen n))] (fun _ => by kernel_rfl) mn an (blen_any n _) (by kernel_rfl) ?_
    refine TL.seg0 4 [] [] [0, 3, 4] [(0, vI n), (3, vI 0), (4, vI (IntKind.i64.wrap ((IntKind.i64.wrap ((IntKind.i64.wrap ((blen n) + 1)).tdiv 2)) - 1)))] (ap [] []) [] [] (fun _ => by kernel_rfl) mn an ?_
    refine TL.fin (by kernel_rfl) ?_
    refine EX.next ?_
    refine TR.block ?_
    refine TR.loop (A := []) (Ts := []) (σ := Int × Int) (fun (x : Int × Int) => match x with | ⟨r, s⟩ => [(0, vI n), (3, vI r), (4, vI s)]) (fun (x : Int × Int) => match x with | ⟨r, s⟩ => ap [] []) (fun (x : Int × Int) => match x with | ⟨r, s⟩ => -1 ≤ s ∧ s ≤ 31 ∧ isqL n (s + 1).toNat r = isqL n (isqS n + 1).toNat 0) (fun (x : Int × Int) => match x with | ⟨r, s⟩ => (s + 1).toNat) (0, isqS n) (⟨(isqS_bd n).1, (isqS_bd n).2, rfl⟩) [0, 3, 4] (by kernel_rfl) [] [] [] [] (by kernel_rfl) (by kernel_rfl) (by kernel_rfl) ?_
    rintro ⟨r, s⟩ ⟨hI0, hI1, hI2⟩
    have hw : s ≥ 0 → IntKind.i64.wrap (s - 1) = s - 1 := fun _ => w64_id (by omega)
    have hsub : (s - 1 + 1).toNat = s.toNat := by rw [Int.sub_add_cancel]
    refine TR.seq ?_
    refine TR.seq ?_
    refine TR.reg ?_
    refine TL.seg0 2 [] [] [0, 3, 4, 15] [(0, vI n), (3, vI r), (4, vI s), (15, .bool (decide (s ≥ 0)))] (ap [] []) [] [] (fun _ => by kernel_rfl) mn an ?_
    refine TL.fin (by kernel_rfl) ?_
    refine EX.next ?_
    rcases Decidable.em (s ≥ 0) with h3 | h3
    · refine TR.yes (b := decide (s ≥ 0)) (by kernel_rfl) (by kernel_rfl) (decide_eq_true h3) ?_
      refine TR.skip ?_
      refine EX.next ?_
      refine TR.seq ?_
      refine TR.block ?_
      refine TR.seq ?_
      refine TR.reg ?_
      let z2 := IntKind.i64.wrap (1 * 2 ^ min (s).toNat 64)
      let z3 := IntKind.i64.wrap ((BitVec.ofInt 64 r ||| BitVec.ofInt 64 z2).toNat : Int)
      let z4 : Nat × Value := (5, vI z3)
      refine TL.seg0 5 [] [.dv] [0, 3, 4, 5] [(0, vI n), (3, vI r), (4, vI s), z4] (ap [] []) [] [0 ≤ s] (fun _ => by kernel_rfl) mn (ac (by omega) an) ?_
      refine TL.fin (by kernel_rfl) ?_
      refine EX.next ?_
      refine TR.seq ?_
      refine TR.seq ?_
      refine TR.reg ?_
      refine TL.seg0 5 [] [.dv] [0, 3, 4, 5, 26] [(0, vI n), (3, vI r), (4, vI s), z4, (26, .bool (decide (IntKind.i64.wrap ((BitVec.ofInt 64 r ||| BitVec.ofInt 64 z2).toNat : Int) > IntKind.i64.wrap (n.tdiv z3))))] (ap [] []) [] [IntKind.i64.wrap ((BitVec.ofInt 64 r ||| BitVec.ofInt 64 (IntKind.i64.wrap (1 * 2 ^ min (s).toNat 64))).toNat : Int) ≠ 0] (fun _ => by kernel_rfl) mn (ac (sqN_ne r (by omega)) an) ?_
      refine TL.fin (by kernel_rfl) ?_
      refine EX.next ?_
      rcases Decidable.em (IntKind.i64.wrap ((BitVec.ofInt 64 r ||| BitVec.ofInt 64 (IntKind.i64.wrap (1 * 2 ^ min (s).toNat 64))).toNat : Int) > IntKind.i64.wrap (n.tdiv (IntKind.i64.wrap ((BitVec.ofInt 64 r ||| BitVec.ofInt 64 (IntKind.i64.wrap (1 * 2 ^ min (s).toNat 64))).toNat : Int)))) with h4 | h4
      · refine TR.yes (b := decide (IntKind.i64.wrap ((BitVec.ofInt 64 r ||| BitVec.ofInt 64 z2).toNat : Int) > IntKind.i64.wrap (n.tdiv z3))) (by kernel_rfl) (by kernel_rfl) (decide_eq_true h4) ?_
        refine TR.exit ?_
        refine EX.thn (by simp) ?_
        refine EX.hit ?_
        refine EX.next ?_
        refine TR.reg ?_
        refine TL.seg0 3 [] [] [0, 3, 4] [(0, vI n), (3, vI r), (4, vI (IntKind.i64.wrap (s - 1)))] (ap [] []) [] [] (fun _ => by kernel_rfl) mn an ?_
        refine TL.fin (by kernel_rfl) ?_
        refine EX.meet (A := []) (Ts := []) (r, IntKind.i64.wrap (s - 1)) ?_ [0, 3, 4] (by kernel_rfl) [] [] [] [] (by kernel_rfl) (by kernel_rfl) (by kernel_rfl)
        try dsimp only
        have hN := isq_next (by omega) hI2
        rw [hw (by assumption), hsub]
        refine ⟨⟨by omega, by omega, ?_⟩, by omega⟩
        simpa only [sqN, *, if_true, if_false] using hN
      · refine TR.no (b := decide (IntKind.i64.wrap ((BitVec.ofInt 64 r ||| BitVec.ofInt 64 z2).toNat : Int) > IntKind.i64.wrap (n.tdiv z3))) (by kernel_rfl) (by kernel_rfl) (decide_eq_false h4) ?_
        refine TR.skip ?_
        refine EX.next ?_
        refine TR.reg ?_
        let z5 : Nat × Value := (3, vI z3)
        refine TL.seg0 2 [] [] [0, 3, 4] [(0, vI n), z5, (4, vI s)] (ap [] []) [] [] (fun _ => by kernel_rfl) mn an ?_
        refine TL.fin (by kernel_rfl) ?_
        refine EX.inn ?_
        refine EX.next ?_
        refine TR.reg ?_
        refine TL.seg0 3 [] [] [0, 3, 4] [(0, vI n), z5, (4, vI (IntKind.i64.wrap (s - 1)))] (ap [] []) [] [] (fun _ => by kernel_rfl) mn an ?_
        refine TL.fin (by kernel_rfl) ?_
        refine EX.meet (A := []) (Ts := []) (IntKind.i64.wrap ((BitVec.ofInt 64 r ||| BitVec.ofInt 64 z2).toNat : Int), IntKind.i64.wrap (s - 1)) ?_ [0, 3, 4] (by kernel_rfl) [] [] [] [] (by kernel_rfl) (by kernel_rfl) (by kernel_rfl)
        try dsimp only
        have hN := isq_next (by omega) hI2
        rw [hw (by assumption), hsub]
        refine ⟨⟨by omega, by omega, ?_⟩, by omega⟩
        simpa only [sqN, *, if_true, if_false] using hN
    · refine TR.no (b := decide (s ≥ 0)) (by kernel_rfl) (by kernel_rfl) (decide_eq_false h3) ?_
      refine TR.exit ?_
      refine EX.thn (by simp) ?_
      refine EX.thn (by simp) ?_
      refine EX.hit ?_
      refine EX.next ?_
      refine TR.seq ?_
      refine TR.reg ?_
      refine TL.seg0 2 [] [] [2] [(2, vI r)] (ap [] []) [] [] (fun _ => by kernel_rfl) mn an ?_
      refine TL.fin (by kernel_rfl) ?_
      refine EX.next ?_
      refine TR.ret (A := []) (Ts := []) (by exact fun _ _ h => h) rfl rfl [] [] (vI r) [] [] (fun _ => by kernel_rfl) mn an [] [] [] [] [] (by kernel_rfl) (by kernel_rfl) (by kernel_rfl) ?_
      refine ⟨?_, rfl⟩
      unfold isqrtI
      first | (simp [*]; done) | (have e : (s + 1).toNat = 0 := by omega); (rw [e, isqL] at hI2); (simp [*])
end Go.Proofs.YtpkincoclhpcgaaGreatDoor
