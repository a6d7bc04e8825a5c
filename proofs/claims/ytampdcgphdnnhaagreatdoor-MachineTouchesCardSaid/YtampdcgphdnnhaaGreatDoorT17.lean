/- Contracts, printed by a program. -/
import Derived.Test.YtampdcgphdnnhaaGreatDoorT16
namespace Go.Proofs.YtampdcgphdnnhaaGreatDoor
set_option linter.unusedSimpArgs false
set_option linter.unusedVariables false
open Go.RowKit
def xorU (a b : Int) : Int := IntKind.u64.wrap ((BitVec.ofInt 64 a ^^^ BitVec.ofInt 64 b).toNat : Int)
def orU (a b : Int) : Int := IntKind.u64.wrap ((BitVec.ofInt 64 a ||| BitVec.ofInt 64 b).toNat : Int)
def mixH (a b : Int) : Int := xorU (IntKind.u64.wrap (xorU a b * 11400714819323198485)) ((IntKind.u64.wrap (xorU a b * 11400714819323198485)).fdiv 4294967296)
/-- k bytes of the i-th word -/
def wordK (b : ByteArray) (i : Nat) : Nat → Int
  | 0 => 0
  | k + 1 => orU (wordK b i k) (IntKind.u64.wrap (IntKind.u64.wrap (strAt b (8 * i + k)) * 2 ^ min (8 * (k : Int)).toNat 64))
def wk (b : ByteArray) (i : Nat) : Nat := min 8 (b.size - 8 * i)
def wn (b : ByteArray) : Nat := (b.size + 7) / 8
def wordsL (b : ByteArray) : List Int := (List.range (wn b)).map fun i => wordK b i (wk b i)
theorem wordsL_len (b : ByteArray) : (wordsL b).length = wn b := by simp [wordsL]
theorem wordsL_get {b : ByteArray} {i : Nat} (h : 8 * i < b.size) : (wordsL b)[i]? = some (wordK b i (wk b i)) := by
  have : i < wn b := by unfold wn; omega
  simp [wordsL, this]
def beginK (b : ByteArray) : Nat → Int
  | 0 => 0
  | m + 1 => mixH (beginK b m) ((wordsL b).getD m 0)
def beginH (b : ByteArray) (n : Int) : Int := mixH (mixH (beginK b (wordsL b).length) (IntKind.u64.wrap (b.size : Int))) (IntKind.u64.wrap n)
def sumK (s : Int) (xs : List Int) : Nat → Int
  | 0 => s
  | k + 1 => mixH (sumK s xs k) (IntKind.u64.wrap (xs.getD k 0))
def sumH (b : ByteArray) (xs : List Int) : Int := mixH (sumK (beginH b xs.length) xs xs.length) 0
abbrev encU (x : Int) : Array Value := #[.int .u64 x]
theorem getDi_of {xs : List Int} {i : Nat} {x : Int} (h : xs[i]? = some x) : xs.getD i 0 = x := by rw [List.getD_eq_getElem?_getD, h]; rfl

set_option maxHeartbeats 400000 in
set_option maxRecDepth 100000 in
theorem mix_any (a b : Int) (F : HL) : Sp Tryz.prog 196 #[.int .u64 a, .int .u64 b] [] F (fun u H' => u = .int .u64 (mixH a b) ∧ H' = []) := by
  refine Sp.run Tryz.func196 rfl mn (A := []) (Ts := []) rfl fun w0 => ?_
  refine RN.go 23 [] fun _ => ?_
  exact RN.ret [] [] [] ⟨rfl, rfl⟩

set_option maxHeartbeats 1000000 in
set_option maxRecDepth 100000 in
theorem words_run (b : ByteArray) (q lp : Nat) (X F : HL) (J : Nat → HL → Prop) (Jx : HL → Prop) (T0 : HL) (hb : b.size ≤ 1000000) (hq : (q, .lit [.string b] 9 (0, 0)) ∈ F) (hY : ∀ i x H Y, (wordsL b)[i]? = some x → J i H → YL Tryz.prog lp (encU x) H (Y ++ (X ++ F)) (fun b H' => (b = true ∧ J (i + 1) H') ∨ (b = false ∧ Jx H'))) (hJ0 : J 0 T0) : Sp Tryz.prog 199 #[.func (.yield lp) #[] #[], vP q 0] (ap [] [T0]) (X ++ F) (fun _ H' => J (wordsL b).length H' ∨ Jx H') := by
  refine Sp.run Tryz.func199 rfl (mc (List.mem_append_right _ hq) mn) (A := []) (Ts := [T0]) rfl fun w0 => ?_
  refine RN.go 6 [] fun _ => RN.loop (σ := Nat × HL) (fun ⟨i, T_⟩ => ⟨[(0, .func (.yield lp) #[] #[]), (1, vP q 0), (3, vI (8 * (i : Int)))], [], [T_], i ≤ wn b ∧ J i T_, wn b - i⟩) (0, T0) [] [0] (⟨Nat.zero_le _, hJ0⟩) ?_
  rintro ⟨i, T_⟩ ⟨hi_, hJ_⟩ mt2
  refine RN.go 9 [.ro 0] fun _ => RN.em (8 * (i : Int) < ((b).size : Int)) 9 (fun h3 => ?_) fun h3 => ?_
  · refine RN.go 17 [] fun _ => RN.loop (σ := Nat) (fun k => ⟨[(0, .func (.yield lp) #[] #[]), (1, vP q 0), (3, vI (8 * (i : Int))), (4, .int .u64 (wordK b i k)), (5, vI (k : Int))], [], [T_], k ≤ 8 ∧ 8 * i + k ≤ b.size, 8 - k⟩) 0 [] [0] (⟨by omega, by omega⟩) ?_
    rintro k ⟨hk_, hk2_⟩ mt5
    refine RN.go 6 [] fun _ => RN.em ((k : Int) < 8) 14 (fun h6 => ?_) fun h6 => ?_
    · refine RN.goP 9 [.nw, .ro 0] [I64 ((8 * (i : Int)) + (k : Int))] fun _ => RN.em ((8 * (i : Int)) + (k : Int) < ((b).size : Int)) 21 (fun h7 => ?_) fun h7 => ?_
      · refine RN.goP 26 [.ro 0, .nw, .ix (8 * i + k), .nw, .dv, .gen, .nw] [I64 ((k : Int) + 1), 0 ≤ 8 * (k : Int), I64 (8 * (k : Int)), (8 * (i : Int)) + (k : Int) = (((8 * i + k) : Nat) : Int) ∧ (8 * i + k) < (b).size, I64 ((8 * (i : Int)) + (k : Int))] fun _ => ?_
        refine mt5 (k + 1) [] [0] ?_
        try dsimp only
        exact ⟨⟨by omega, by omega⟩, by omega⟩
      · obtain rfl : k = wk b i := by unfold wk; omega
        refine RN.go 10 [] fun _ => RN.yield 0 (hY i (wordK b i (wk b i)) _ _ (wordsL_get (by omega)) hJ_) ?_
        rintro b_ T8 (⟨rfl, hJ9⟩ | ⟨rfl, hJ9⟩)
        · refine RN.goP 12 [.gen, .nw] [I64 ((8 * (i : Int)) + 8)] fun _ => RN.sv 3 (congrArg (fun v_ => (vI v_ : Value)) (show (8 * (i : Int) + 8) = 8 * ((i + 1 : Nat) : Int) by omega)) ?_
          refine mt2 (i + 1, T8) [] [0] ?_
          try dsimp only
          exact ⟨⟨by unfold wn at *; omega, hJ9⟩, by unfold wn at *; omega⟩
        · refine RN.go 4 [] fun _ => RN.ret [] [] [0] (v := .tuple #[]) (H' := (ap [] [T8])) ?_
          rw [ap_one]
          exact .inr hJ9
    · obtain rfl : k = wk b i := by unfold wk; omega
      refine RN.go 19 [] fun _ => RN.yield 0 (hY i (wordK b i (wk b i)) _ _ (wordsL_get (by omega)) hJ_) ?_
      rintro b_ T10 (⟨rfl, hJ11⟩ | ⟨rfl, hJ11⟩)
      · refine RN.goP 12 [.gen, .nw] [I64 ((8 * (i : Int)) + 8)] fun _ => RN.sv 3 (congrArg (fun v_ => (vI v_ : Value)) (show (8 * (i : Int) + 8) = 8 * ((i + 1 : Nat) : Int) by omega)) ?_
        refine mt2 (i + 1, T10) [] [0] ?_
        try dsimp only
        exact ⟨⟨by unfold wn at *; omega, hJ11⟩, by unfold wn at *; omega⟩
      · refine RN.go 4 [] fun _ => RN.ret [] [] [0] (v := .tuple #[]) (H' := (ap [] [T10])) ?_
        rw [ap_one]
        exact .inr hJ11
  · obtain rfl : i = wn b := by unfold wn at *; omega
    refine RN.go 5 [] fun _ => RN.ret [] [] [0] (v := .tuple #[]) (H' := (ap [] [T_])) ?_
    rw [ap_one]
    exact .inl (by rw [wordsL_len]; exact hJ_)

theorem words_it (b : ByteArray) (q : Nat) (F : HL) (hb : b.size ≤ 1000000) (hq : (q, .lit [.string b] 9 (0, 0)) ∈ F) : It Tryz.prog 199 #[vP q 0] F encU (wordsL b) := by
  intro X l J Jx H0 hY h0
  have key := words_run b q l X F J Jx H0 hb hq hY h0
  rw [ap_one] at key
  exact key

set_option maxHeartbeats 400000 in
set_option maxRecDepth 100000 in
theorem words_any (b : ByteArray) (F : HL) : Sp Tryz.prog 198 #[.string b] [] F (fun u H' => ∃ n : Nat, H' = ap [((n + 0), .lit [.string b] 9 (0, 0))] [] ∧ u = .func (.func 199) #[] #[vP (n + 0) 0]) := by
  refine Sp.run Tryz.func198 rfl mn (A := []) (Ts := []) rfl fun w0 => ?_
  refine RN.go 12 [] fun n1 => RN.ret [] [0] [] (v := .func (.func 199) #[] #[vP (n1 + 0) 0]) (H' := (ap [((n1 + 0), .lit [.string b] 9 (0, 0))] [])) ?_
  exact ⟨_, rfl, rfl⟩

theorem words_ap (b : ByteArray) (F : HL) : Sp Tryz.prog 198 #[.string b] (ap [] []) F (fun u H' => ∃ n : Nat, H' = ap [((n + 0), .lit [.string b] 9 (0, 0))] [] ∧ u = .func (.func 199) #[] #[vP (n + 0) 0]) := words_any b F

set_option maxHeartbeats 400000 in
set_option maxRecDepth 100000 in
theorem hbegin_any (b : ByteArray) (n : Int) (F : HL) (hb : b.size ≤ 1000000) : Sp Tryz.prog 195 #[.string b, vI n] [] F (fun u H' => u = .int .u64 (beginH b n) ∧ H' = []) := by
  refine Sp.runM Tryz.func195 rfl mn (A := []) (Ts := []) rfl fun w0 => ?_
  refine RN.go 14 [] fun n1 => RN.ct (Hp := []) (Tp := []) [] [] (words_ap b _) ?_
  rintro _ m2 rfl
  refine RN.go 3 [] fun _ => RN.range (σ := Nat) (τ := Nat × Int) (encs := fun (x_ : Int) => #[.int .u64 x_]) (xs := (wordsL b)) (enters_of Tryz.func199 (by kernel_rfl) rfl) (fun m_ => ([((n1 + 0), .lit [.int .u64 (beginK b m_)] 172 (0, 0))], [])) (fun i_ m_ => m_ = i_) (fun c_ m_ => False) (fun ⟨m_, y_⟩ => ⟨[(0, .string b), (1, vI n), (5, vP (n1 + 0) 0), (6, .int .u64 y_)], [((n1 + 0), .lit [.int .u64 (beginK b m_)] 172 (0, 0))], [], True, 0⟩) (fun i_ x_ ⟨m_, y_⟩ => m_ = i_ ∧ y_ = x_) 0 rfl [1] [] (words_it b (m2 + 0) _ hb (in_ap 0)) ?_ ?_ ?_ ?_
  · rintro l_ i_ x_ m_ Y3 w4 hx5 rfl mt6
    refine RN.go 3 [] fun _ => ?_
    refine mt6 (m_, x_) [0] [] ?_
    try dsimp only
    exact ⟨rfl, rfl⟩
  · rintro l_ i_ x_ ⟨m_, y_⟩ Y7 w8 hx9 ⟨rfl, ey_⟩
    refine RN.go 4 [.own 0] fun _ => RN.cp (mix_any (beginK b m_) y_ _) <| RN.go 3 [.own 0] fun _ => ?_
    have e_ : beginK b (m_ + 1) = mixH (beginK b m_) y_ := by rw [beginK, ey_, getDi_of hx9]
    refine RN.bv 0 (congrArg (fun v_ => (.lit [.int .u64 v_] 172 (0, 0) : Blk)) e_.symm) <| RN.rn (m_ + 1) [0] [] ?_
    try dsimp only
    first | done | rfl
  · rintro d10 m_ rfl
    refine RN.go 8 [.own 1] fun _ => RN.cp (mix_any (beginK b (wordsL b).length) (IntKind.u64.wrap ((b).size : Int)) _) <| RN.go 2 [] fun _ => RN.cp (mix_any (mixH (beginK b (wordsL b).length) (IntKind.u64.wrap ((b).size : Int))) (IntKind.u64.wrap n) _) <| RN.go 3 [] fun _ => ?_
    exact RN.retM [d10] [0] [] [] [] ⟨rfl, rfl⟩
  · exact fun _ _ _ h => h.elim

set_option maxHeartbeats 400000 in
set_option maxRecDepth 100000 in
theorem hsum_any (b : ByteArray) (xs : List Int) (q c : Nat) (F : HL) (hb : b.size ≤ 1000000) (hl : xs.length ≤ c) (hl2 : xs.length ≤ 1000000) (hq : (q, .rows 1 c (irow xs) 3 (0, 0)) ∈ F) : Sp Tryz.prog 193 #[.string b, vS q 0 xs.length c] [] F (fun u H' => u = .int .u64 (sumH b xs) ∧ H' = []) := by
  refine Sp.run Tryz.func193 rfl (mc hq mn) (A := []) (Ts := []) rfl fun w0 => ?_
  refine RN.go 10 [] fun _ => RN.cp (hbegin_any b (xs.length : Int) _ (by assumption)) <| RN.go 12 [] fun _ => RN.loop (σ := Nat) (fun k => ⟨[(5, .int .u64 (sumK (beginH b xs.length) xs k)), (12, vS q 0 xs.length c), (13, vI (xs.length : Int)), (14, vI (k : Int))], [], [], k ≤ xs.length, xs.length - k⟩) 0 [] [] (Nat.zero_le _) ?_
  rintro k hI1 mt2
  refine RN.go 6 [] fun _ => RN.em ((k : Int) < (xs.length : Int)) 15 (fun h3 => ?_) fun h3 => ?_
  · refine RN.goP 16 [.ix k, .rorow 0 k 0] [(0 + k * 1) = k * 1 + 0 ∧ k < c, (k : Int) = ((k : Nat) : Int) ∧ k < xs.length] fun _ => RN.cp (mix_any (sumK (beginH b xs.length) xs k) (IntKind.u64.wrap (xs.getD k 0)) _) <| RN.goP 8 [.nw] [I64 ((k : Int) + 1)] fun _ => ?_
    refine mt2 (k + 1) [] [] ?_
    try dsimp only
    exact ⟨by omega, by omega⟩
  · obtain rfl : k = xs.length := by omega
    refine RN.go 9 [] fun _ => RN.cp (mix_any (sumK (beginH b xs.length) xs xs.length) 0 _) <| RN.go 3 [] fun _ => ?_
    exact RN.ret [] [] [] ⟨rfl, rfl⟩
end Go.Proofs.YtampdcgphdnnhaaGreatDoor
