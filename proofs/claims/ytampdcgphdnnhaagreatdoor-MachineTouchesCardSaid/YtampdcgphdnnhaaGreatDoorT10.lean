/- Contracts, printed by a program. -/
import Derived.Test.YtampdcgphdnnhaaGreatDoorT09
namespace Go.Proofs.YtampdcgphdnnhaaGreatDoor
set_option linter.unusedSimpArgs false
set_option linter.unusedVariables false
open Go.RowKit
abbrev w64u (n : Int) : Int := IntKind.u64.wrap n
theorem w64u_bd (n : Int) : 0 ≤ w64u n ∧ w64u n ≤ 18446744073709551615 := by
  show 0 ≤ IntKind.u64.wrap n ∧ IntKind.u64.wrap n ≤ _
  unfold IntKind.wrap
  simp [IntKind.signed, IntKind.bits]
  omega
abbrev blen (n : Int) : Int := (Lib.bitLen (w64u n).toNat : Int)
theorem blen_any (n : Int) (F : HL) : Sp Tryz.prog 70 #[.int .u64 (w64u n)] [] F (fun u H' => u = vI (blen n) ∧ H' = []) :=
  Sp.of_calls (fun w => Tryz.bits_Len _ w (w64u_bd n).1 (w64u_bd n).2) F
theorem blen_bd (n : Int) : 0 ≤ blen n ∧ blen n ≤ 64 := by
  have h := w64u_bd n
  have := Lib.bitLen_le (w64u n).toNat 64 (by omega) (by omega)
  unfold blen
  omega
def sqN (r : Int) (k : Nat) : Int := w64 ((BitVec.ofInt 64 r ||| BitVec.ofInt 64 (w64 (1 * 2 ^ min k 64))).toNat : Int)
def isqL (n : Int) : Nat → Int → Int
  | 0, r => r
  | k + 1, r => isqL n k (if sqN r k > w64 (n.tdiv (sqN r k)) then r else sqN r k)
def isqS (n : Int) : Int := w64 (w64 ((w64 (blen n + 1)).tdiv 2) - 1)
def isqrtI (n : Int) : Int := if n ≤ 0 then 0 else isqL n (isqS n + 1).toNat 0
theorem w64z (v : BitVec 64) (h : w64 (v.toNat : Int) = 0) : v = 0#64 := by
  apply BitVec.eq_of_toNat_eq
  have h2 : v.toNat < 18446744073709551616 := v.isLt
  generalize v.toNat = m at *
  rw [w64, IntKind.wrap_i64] at h
  simp
  omega
theorem sqN_ne (r : Int) {k : Nat} (hk : k < 40) : sqN r k ≠ 0 := by
  intro h
  have hb : BitVec.ofInt 64 (w64 (1 * 2 ^ min k 64)) ≠ 0#64 := by
    have : ∀ k < 40, BitVec.ofInt 64 (w64 (1 * 2 ^ min k 64)) ≠ 0#64 := by decide
    exact this k hk
  have h1 := w64z _ h
  clear h
  generalize BitVec.ofInt 64 (w64 (1 * 2 ^ min k 64)) = b at *
  generalize BitVec.ofInt 64 r = a at *
  apply hb
  have : (a ||| b) &&& b = b := by
    apply BitVec.eq_of_getLsbD_eq
    intro i hi
    simp
    intro h
    exact .inr h
  rw [h1] at this
  simpa using this.symm
theorem isqS_bd (n : Int) : -1 ≤ isqS n ∧ isqS n ≤ 31 := by
  have := blen_bd n
  unfold isqS w64
  generalize blen n = l at *
  have e1 : IntKind.i64.wrap (l + 1) = l + 1 := by rw [IntKind.wrap_i64]; omega
  rw [e1, Int.tdiv_eq_ediv_of_nonneg (by omega)]
  have e2 : IntKind.i64.wrap ((l + 1) / 2) = (l + 1) / 2 := by rw [IntKind.wrap_i64]; omega
  rw [e2, IntKind.wrap_i64]
  omega
theorem w64_id {x : Int} (h : -9223372036854775808 ≤ x ∧ x ≤ 9223372036854775807) : w64 x = x := by
  rw [w64, IntKind.wrap_i64]; omega
theorem isq_next {n r s : Int} {k : Int} (h0 : ¬ s < 0) (h : isqL n (s + 1).toNat r = k) : isqL n s.toNat (if sqN r s.toNat > w64 (n.tdiv (sqN r s.toNat)) then r else sqN r s.toNat) = k := by
  have e : (s + 1).toNat = s.toNat + 1 := by omega
  rw [e, isqL] at h
  exact h

set_option maxHeartbeats 400000 in
set_option maxRecDepth 100000 in
theorem isqrt_any (n : Int)  (F : HL) : Sp Tryz.prog 197 #[vI n] [] F (fun u H' => u = vI (isqrtI n) ∧ H' = []) := by
  refine Sp.run Tryz.func197 rfl mn (A := []) (Ts := []) rfl fun w0 => ?_
  refine RN.go 13 [] fun _ => RN.em (n ≤ 0) 7 (fun h1 => ?_) fun h1 => ?_
  · refine RN.go 6 [] fun _ => RN.ret [] [] [] (v := vI 0) (H' := []) ?_
    refine ⟨?_, rfl⟩
    unfold isqrtI
    first | (simp [*]; done) | (have e : (s + 1).toNat = 0 := by omega); (rw [e, isqL] at hI2); (simp [*])
  · refine RN.go 16 [] fun _ => RN.cp (blen_any n _) <| RN.go 7 [] fun _ => RN.loop (σ := Int × Int) (fun ⟨r, s⟩ => ⟨[(0, vI n), (3, vI r), (4, vI s)], [], [], -1 ≤ s ∧ s ≤ 31 ∧ isqL n (s + 1).toNat r = isqL n (isqS n + 1).toNat 0, (s + 1).toNat⟩) (0, isqS n) [] [] (⟨(isqS_bd n).1, (isqS_bd n).2, rfl⟩) ?_
    rintro ⟨r, s⟩ ⟨hI0, hI1, hI2⟩ mt3
    have hw : s ≥ 0 → IntKind.i64.wrap (s - 1) = s - 1 := fun _ => w64_id (by omega)
    have hsub : (s - 1 + 1).toNat = s.toNat := by rw [Int.sub_add_cancel]
    refine RN.go 7 [] fun _ => RN.em (s ≥ 0) 15 (fun h4 => ?_) fun h4 => ?_
    · refine RN.goO 24 [.dv, .gen, .dv] (fun _ => [IntKind.i64.wrap ((BitVec.ofInt 64 r ||| BitVec.ofInt 64 (IntKind.i64.wrap (1 * 2 ^ min (s).toNat 64))).toNat : Int) ≠ 0, 0 ≤ s]) (fun _ => (ac (sqN_ne r (by omega)) (ac (by omega) an))) fun _ => RN.em (IntKind.i64.wrap ((BitVec.ofInt 64 r ||| BitVec.ofInt 64 (IntKind.i64.wrap (1 * 2 ^ min (s).toNat 64))).toNat : Int) > IntKind.i64.wrap (n.tdiv (IntKind.i64.wrap ((BitVec.ofInt 64 r ||| BitVec.ofInt 64 (IntKind.i64.wrap (1 * 2 ^ min (s).toNat 64))).toNat : Int)))) 26 (fun h5 => ?_) fun h5 => ?_
      · refine RN.go 10 [] fun _ => ?_
        refine mt3 (r, IntKind.i64.wrap (s - 1)) [] [] ?_
        try dsimp only
        have hN := isq_next (by omega) hI2
        rw [hw (by assumption), hsub]
        refine ⟨⟨by omega, by omega, ?_⟩, by omega⟩
        simpa only [sqN, *, if_true, if_false] using hN
      · refine RN.go 14 [] fun _ => ?_
        refine mt3 (IntKind.i64.wrap ((BitVec.ofInt 64 r ||| BitVec.ofInt 64 (IntKind.i64.wrap (1 * 2 ^ min (s).toNat 64))).toNat : Int), IntKind.i64.wrap (s - 1)) [] [] ?_
        try dsimp only
        have hN := isq_next (by omega) hI2
        rw [hw (by assumption), hsub]
        refine ⟨⟨by omega, by omega, ?_⟩, by omega⟩
        simpa only [sqN, *, if_true, if_false] using hN
    · refine RN.go 12 [] fun _ => RN.ret [] [] [] (v := vI r) (H' := []) ?_
      refine ⟨?_, rfl⟩
      unfold isqrtI
      first | (simp [*]; done) | (have e : (s + 1).toNat = 0 := by omega); (rw [e, isqL] at hI2); (simp [*])
end Go.Proofs.YtampdcgphdnnhaaGreatDoor
/- Contracts, printed by a program. -/
namespace Go.Proofs.YtampdcgphdnnhaaGreatDoor
set_option linter.unusedSimpArgs false
set_option linter.unusedVariables false
open Go.RowKit
def vadd (a b : V2) : V2 := ⟨w64 (a.x + b.x), w64 (a.y + b.y)⟩
def vsub (a b : V2) : V2 := ⟨w64 (a.x - b.x), w64 (a.y - b.y)⟩
def vneg (a : V2) : V2 := vsub ⟨0, 0⟩ a
def vscale (a : V2) (f : Int) : V2 := ⟨mulI a.x f, mulI a.y f⟩
def vmuldiv (a : V2) (n d : Int) : V2 := ⟨mulDivI a.x n d, mulDivI a.y n d⟩
def floorI (n : Int) : Int := n.fdiv 1024
def vdot (a b : V2) : Int := floorI (w64 (w64 (a.x * b.x) + w64 (a.y * b.y)))
def vlen (a : V2) : Int := isqrtI (w64 (w64 (a.x * a.x) + w64 (a.y * a.y)))
def vzero (a : V2) : Prop := a.x = 0 ∧ a.y = 0
instance (a : V2) : Decidable (vzero a) := inferInstanceAs (Decidable (_ ∧ _))
def vnorm (a : V2) : V2 := if vzero a then a else vmuldiv a 1024 (vlen a)

set_option maxHeartbeats 400000 in
set_option maxRecDepth 100000 in
theorem adds_any (m n : Int) (F : HL) : Sp Tryz.prog 83 #[vI m, vI n] [] F (fun u H' => u = vI (w64 (m + n)) ∧ H' = []) := by
  refine Sp.run Tryz.func83 rfl mn (A := []) (Ts := []) rfl fun w0 => ?_
  refine RN.go 13 [] fun _ => ?_
  exact RN.ret [] [] [] ⟨rfl, rfl⟩

set_option maxHeartbeats 400000 in
set_option maxRecDepth 100000 in
theorem subs_any (m n : Int) (F : HL) : Sp Tryz.prog 161 #[vI m, vI n] [] F (fun u H' => u = vI (w64 (m - n)) ∧ H' = []) := by
  refine Sp.run Tryz.func161 rfl mn (A := []) (Ts := []) rfl fun w0 => ?_
  refine RN.go 13 [] fun _ => ?_
  exact RN.ret [] [] [] ⟨rfl, rfl⟩

set_option maxHeartbeats 400000 in
set_option maxRecDepth 100000 in
theorem mulDiv1_any (m n d : Int) (b : Nat) (F : HL) (hb : (b, .lit [vI d] 3 (0, 0)) ∈ F) : Sp Tryz.prog 140 #[vI m, vI n, vP b 0] [] F (fun u H' => u = vI (mulDivI m n d) ∧ H' = []) := by
  refine Sp.run Tryz.func140 rfl (mc hb mn) (A := []) (Ts := []) rfl fun w0 => ?_
  refine RN.go 10 [.ro 0] fun _ => RN.cp (mulDiv_any m n d  _) <| RN.go 3 [] fun _ => ?_
  exact RN.ret [] [] [] ⟨rfl, rfl⟩

set_option maxHeartbeats 400000 in
set_option maxRecDepth 100000 in
theorem comb_add (a b : V2)  (F : HL) : Sp Tryz.prog 82 #[.agg #[vI a.x, vI a.y], .agg #[vI b.x, vI b.y], .func (.func 83) #[] #[]] [] F (fun u H' => u = .agg #[vI ((vadd a b).x), vI ((vadd a b).y)] ∧ H' = []) := by
  refine Sp.run Tryz.func82 rfl mn (A := []) (Ts := []) rfl fun w0 => ?_
  refine RN.go 8 [] fun n1 => RN.draw [13] [] <| RD.go [] [0, 1, 3, 6, 7, 9, 2, 4, 8, 10] [.own 2, .own 1, .own 2, .own 1] <| RD.cp [] 5 (fun X_ => (adds_any a.x b.x _)) <| RD.cp [] 11 (fun X_ => (adds_any a.y b.y _)) <| RD.go [] [12] [] <| RD.one 13 (RDO.ev [] [.own 0, .own 0] fun _ => ?_)
  refine RD.fin <| RN.go 1 [] fun _ => ?_
  exact RN.ret [.own 0, .own 0] [] [] ⟨rfl, rfl⟩

set_option maxHeartbeats 400000 in
set_option maxRecDepth 100000 in
theorem comb_sub (a b : V2)  (F : HL) : Sp Tryz.prog 82 #[.agg #[vI a.x, vI a.y], .agg #[vI b.x, vI b.y], .func (.func 161) #[] #[]] [] F (fun u H' => u = .agg #[vI ((vsub a b).x), vI ((vsub a b).y)] ∧ H' = []) := by
  refine Sp.run Tryz.func82 rfl mn (A := []) (Ts := []) rfl fun w0 => ?_
  refine RN.go 8 [] fun n1 => RN.draw [13] [] <| RD.go [] [0, 1, 3, 6, 7, 9, 2, 4, 8, 10] [.own 2, .own 1, .own 2, .own 1] <| RD.cp [] 5 (fun X_ => (subs_any a.x b.x _)) <| RD.cp [] 11 (fun X_ => (subs_any a.y b.y _)) <| RD.go [] [12] [] <| RD.one 13 (RDO.ev [] [.own 0, .own 0] fun _ => ?_)
  refine RD.fin <| RN.go 1 [] fun _ => ?_
  exact RN.ret [.own 0, .own 0] [] [] ⟨rfl, rfl⟩

set_option maxHeartbeats 400000 in
set_option maxRecDepth 100000 in
theorem comb_mul (a b : V2)  (F : HL) : Sp Tryz.prog 82 #[.agg #[vI a.x, vI a.y], .agg #[vI b.x, vI b.y], .func (.func 85) #[] #[]] [] F (fun u H' => u = .agg #[vI ((⟨mulI a.x b.x, mulI a.y b.y⟩ : V2).x), vI ((⟨mulI a.x b.x, mulI a.y b.y⟩ : V2).y)] ∧ H' = []) := by
  refine Sp.run Tryz.func82 rfl mn (A := []) (Ts := []) rfl fun w0 => ?_
  refine RN.go 8 [] fun n1 => RN.draw [13] [] <| RD.go [] [0, 1, 3, 6, 7, 9, 2, 4, 8, 10] [.own 2, .own 1, .own 2, .own 1] <| RD.cp [] 5 (fun X_ => (mul_any a.x b.x  _)) <| RD.cp [] 11 (fun X_ => (mul_any a.y b.y  _)) <| RD.go [] [12] [] <| RD.one 13 (RDO.ev [] [.own 0, .own 0] fun _ => ?_)
  refine RD.fin <| RN.go 1 [] fun _ => ?_
  exact RN.ret [.own 0, .own 0] [] [] ⟨rfl, rfl⟩

set_option maxHeartbeats 400000 in
set_option maxRecDepth 100000 in
theorem comb_muldiv (a b : V2) (d : Int) (q : Nat) (F : HL) (hq : (q, .lit [vI d] 3 (0, 0)) ∈ F) : Sp Tryz.prog 82 #[.agg #[vI a.x, vI a.y], .agg #[vI b.x, vI b.y], .func (.func 140) #[] #[vP q 0]] [] F (fun u H' => u = .agg #[vI ((⟨mulDivI a.x b.x d, mulDivI a.y b.y d⟩ : V2).x), vI ((⟨mulDivI a.x b.x d, mulDivI a.y b.y d⟩ : V2).y)] ∧ H' = []) := by
  refine Sp.run Tryz.func82 rfl (mc hq mn) (A := []) (Ts := []) rfl fun w0 => ?_
  refine RN.go 8 [] fun n1 => RN.draw [13] [] <| RD.go [] [0, 1, 3, 6, 7, 9, 2, 4, 8, 10] [.own 2, .own 1, .own 2, .own 1] <| RD.cp [] 5 (fun X_ => (mulDiv1_any a.x b.x d q _ (ro_apX hq))) <| RD.cp [] 11 (fun X_ => (mulDiv1_any a.y b.y d q _ (ro_apX hq))) <| RD.go [] [12] [] <| RD.one 13 (RDO.ev [] [.own 0, .own 0] fun _ => ?_)
  refine RD.fin <| RN.go 1 [] fun _ => ?_
  exact RN.ret [.own 0, .own 0] [] [] ⟨rfl, rfl⟩

set_option maxHeartbeats 400000 in
set_option maxRecDepth 100000 in
theorem uniform_any (n : Int) (F : HL) : Sp Tryz.prog 84 #[vI n] [] F (fun u H' => u = .agg #[vI n, vI n] ∧ H' = []) := by
  refine Sp.run Tryz.func84 rfl mn (A := []) (Ts := []) rfl fun w0 => ?_
  refine RN.go 13 [.own 0, .own 0] fun n1 => ?_
  exact RN.ret [.own 0, .own 0] [] [] ⟨rfl, rfl⟩

set_option maxHeartbeats 400000 in
set_option maxRecDepth 100000 in
theorem vadd_any (a : V2) (b : V2)  (F : HL) : Sp Tryz.prog 61 #[.agg #[vI a.x, vI a.y], .agg #[vI b.x, vI b.y]] [] F (fun u H' => u = .agg #[vI ((vadd a b).x), vI ((vadd a b).y)] ∧ H' = []) := by
  refine Sp.run Tryz.func61 rfl mn (A := []) (Ts := []) rfl fun w0 => ?_
  refine RN.go 11 [.own 2, .own 2, .own 1, .own 1] fun n1 => RN.cp (comb_add a b _) <| RN.go 3 [.own 0, .own 0] fun _ => ?_
  exact RN.ret [.own 0, .own 0] [] [] ⟨rfl, rfl⟩

set_option maxHeartbeats 400000 in
set_option maxRecDepth 100000 in
theorem vsub_any (a : V2) (b : V2)  (F : HL) : Sp Tryz.prog 129 #[.agg #[vI a.x, vI a.y], .agg #[vI b.x, vI b.y]] [] F (fun u H' => u = .agg #[vI ((vsub a b).x), vI ((vsub a b).y)] ∧ H' = []) := by
  refine Sp.run Tryz.func129 rfl mn (A := []) (Ts := []) rfl fun w0 => ?_
  refine RN.go 11 [.own 2, .own 2, .own 1, .own 1] fun n1 => RN.cp (comb_sub a b _) <| RN.go 3 [.own 0, .own 0] fun _ => ?_
  exact RN.ret [.own 0, .own 0] [] [] ⟨rfl, rfl⟩

set_option maxHeartbeats 400000 in
set_option maxRecDepth 100000 in
theorem vneg_any (a : V2)  (F : HL) : Sp Tryz.prog 130 #[.agg #[vI a.x, vI a.y]] [] F (fun u H' => u = .agg #[vI ((vneg a).x), vI ((vneg a).y)] ∧ H' = []) := by
  refine Sp.run Tryz.func130 rfl mn (A := []) (Ts := []) rfl fun w0 => ?_
  refine RN.go 10 [.own 1, .own 1] fun n1 => RN.cp (vsub_any (⟨0, 0⟩ : V2) a  _) <| RN.go 3 [.own 0, .own 0] fun _ => ?_
  exact RN.ret [.own 0, .own 0] [] [] ⟨rfl, rfl⟩

set_option maxHeartbeats 400000 in
set_option maxRecDepth 100000 in
theorem vscale_any (a : V2) (f : Int)  (F : HL) : Sp Tryz.prog 62 #[.agg #[vI a.x, vI a.y], vI f] [] F (fun u H' => u = .agg #[vI ((vscale a f).x), vI ((vscale a f).y)] ∧ H' = []) := by
  refine Sp.run Tryz.func62 rfl mn (A := []) (Ts := []) rfl fun w0 => ?_
  refine RN.go 7 [] fun n1 => RN.draw [4] [] <| RD.go [] [0, 1] [.own 1, .own 1] <| RD.cp [] 2 (fun X_ => (uniform_any f _)) <| RD.cp [] 3 (fun X_ => (comb_mul a (⟨f, f⟩ : V2) _)) <| RD.one 4 (RDO.ev [] [.own 0, .own 0] fun _ => ?_)
  refine RD.fin <| RN.go 1 [] fun _ => ?_
  exact RN.ret [.own 0, .own 0] [] [] ⟨rfl, rfl⟩

set_option maxHeartbeats 400000 in
set_option maxRecDepth 100000 in
theorem vmuldiv_any (a : V2) (n : Int) (d : Int)  (F : HL) : Sp Tryz.prog 90 #[.agg #[vI a.x, vI a.y], vI n, vI d] [] F (fun u H' => u = .agg #[vI ((vmuldiv a n d).x), vI ((vmuldiv a n d).y)] ∧ H' = []) := by
  refine Sp.run Tryz.func90 rfl mn (A := []) (Ts := []) rfl fun w0 => ?_
  refine RN.go 8 [] fun n1 => RN.draw [5] [] <| RD.go [] [0, 1, 3] [.own 2, .own 2] <| RD.cp [] 2 (fun X_ => (uniform_any n _)) <| RD.cp [] 4 (fun X_ => (comb_muldiv a (⟨n, n⟩ : V2) d (n1 + 1) _ (in_apX 1))) <| RD.one 5 (RDO.ev [] [.own 0, .own 0] fun _ => ?_)
  refine RD.fin <| RN.go 1 [] fun _ => ?_
  exact RN.ret [.own 0, .own 0] [] [] ⟨rfl, rfl⟩

set_option maxHeartbeats 400000 in
set_option maxRecDepth 100000 in
theorem floor_any (n : Int)  (F : HL) : Sp Tryz.prog 160 #[vI n] [] F (fun u H' => u = vI (floorI n) ∧ H' = []) := by
  refine Sp.run Tryz.func160 rfl mn (A := []) (Ts := []) rfl fun w0 => ?_
  refine RN.go 12 [] fun _ => ?_
  exact RN.ret [] [] [] ⟨rfl, rfl⟩

set_option maxHeartbeats 400000 in
set_option maxRecDepth 100000 in
theorem vdot_any (a : V2) (b : V2)  (F : HL) : Sp Tryz.prog 128 #[.agg #[vI a.x, vI a.y], .agg #[vI b.x, vI b.y]] [] F (fun u H' => u = vI (vdot a b) ∧ H' = []) := by
  refine Sp.run Tryz.func128 rfl mn (A := []) (Ts := []) rfl fun w0 => ?_
  refine RN.go 20 [.own 1, .own 0, .own 1, .own 0] fun n1 => RN.cp (floor_any (IntKind.i64.wrap ((IntKind.i64.wrap (a.x * b.x)) + (IntKind.i64.wrap (a.y * b.y))))  _) <| RN.go 3 [] fun _ => ?_
  exact RN.ret [] [] [] ⟨rfl, rfl⟩

set_option maxHeartbeats 400000 in
set_option maxRecDepth 100000 in
theorem vlen_any (a : V2)  (F : HL) : Sp Tryz.prog 194 #[.agg #[vI a.x, vI a.y]] [] F (fun u H' => u = vI (vlen a) ∧ H' = []) := by
  refine Sp.run Tryz.func194 rfl mn (A := []) (Ts := []) rfl fun w0 => ?_
  refine RN.go 19 [.own 0, .own 0, .own 0, .own 0] fun n1 => RN.cp (isqrt_any (IntKind.i64.wrap ((IntKind.i64.wrap (a.x * a.x)) + (IntKind.i64.wrap (a.y * a.y))))  _) <| RN.go 3 [] fun _ => ?_
  exact RN.ret [] [] [] ⟨rfl, rfl⟩

set_option maxHeartbeats 400000 in
set_option maxRecDepth 100000 in
theorem vnorm_any (a : V2)  (F : HL) : Sp Tryz.prog 190 #[.agg #[vI a.x, vI a.y]] [] F (fun u H' => u = .agg #[vI ((vnorm a).x), vI ((vnorm a).y)] ∧ H' = []) := by
  refine Sp.run Tryz.func190 rfl mn (A := []) (Ts := []) rfl fun w0 => ?_
  refine RN.go 14 [.own 1, .own 1, .sq] fun n1 => RN.eb ((decide (a.x = 0) && (decide (a.y = 0) && true))) 5 (fun h2 => ?_) fun h2 => ?_
  · refine RN.go 7 [.own 1, .own 1, .own 0, .own 0] fun _ => RN.ret [.own 0, .own 0] [] [] (v := .agg #[vI a.x, vI a.y]) (H' := []) ?_
    refine ⟨?_, rfl⟩
    unfold vnorm
    first | rw [if_pos (by simpa [vzero] using h2)] | rw [if_neg (by simpa [vzero] using h2)]
  · refine RN.go 4 [] fun _ => RN.draw [4] [] <| RD.go [] [0, 1] [.own 1, .own 1, .own 1, .own 1] <| RD.cp [] 2 (fun X_ => (vlen_any a  _)) <| RD.cp [] 3 (fun X_ => (vmuldiv_any a 1024 (vlen a)  _)) <| RD.one 4 (RDO.ev [] [.own 0, .own 0] fun _ => ?_)
    refine RD.fin <| RN.go 1 [] fun _ => RN.ret [.own 0, .own 0] [] [] (v := .agg #[vI ((vmuldiv a 1024 (vlen a)).x), vI ((vmuldiv a 1024 (vlen a)).y)]) (H' := []) ?_
    refine ⟨?_, rfl⟩
    unfold vnorm
    first | rw [if_pos (by simpa [vzero] using h2)] | rw [if_neg (by simpa [vzero] using h2)]
end Go.Proofs.YtampdcgphdnnhaaGreatDoor
