/- Contracts, printed by a program. -/
import Derived.Test.YtpkincoclhpcgaaGreatDoorKn
namespace Go.Proofs.YtpkincoclhpcgaaGreatDoor
set_option linter.unusedSimpArgs false
set_option linter.unusedVariables false
open Go.RowKit
def intE : Enc Int := ⟨1, fun p k => match k with | 0 => vI p | _ => vI p, 0⟩
noncomputable def intEI : TypeInfo := match Tryz.prog.info? 3 with | some i => i | none => ⟨.bool, "", 0, 0, false, 0, 0, none, false, #[]⟩
noncomputable def intEZ : Value := match intEI.zero with | some z => z | none => .bool false
theorem intEOk : EncOk intE Tryz.prog 3 intEI intEZ where
  info := by kernel_rfl
  zero := by kernel_rfl
  size := by kernel_rfl
  zsize := by kernel_rfl
  zcell := fun k hk => by
    have h : ∀ k < 1, intEZ.cells[k]? = some (intE.cell intE.dflt k) := by intro k hk; (iterate 1 (rcases k with _ | k; · kernel_rfl)); omega
    exact h k hk
  one := fun x k => by unfold intE; dsimp only; split <;> rfl
  bytes := Nat.le_of_ble_eq_true (by kernel_rfl)

abbrev i64r (n : Int) : Prop := -9223372036854775808 ≤ n ∧ n ≤ 9223372036854775807
theorem around_bd {n : Int} (hn : i64r n) (most : Int) (h : 0 < most) : 0 ≤ around n most ∧ around n most < most := by
  unfold around
  have hx : 0 ≤ (if n < 0 then w64 (0 - w64 (n + 1)) else n) := by
    split
    · rw [w64_id (x := n + 1) (by omega), w64_id (by omega)]; omega
    · omega
  exact ⟨Int.tmod_nonneg _ hx, Int.tmod_lt_of_pos _ h⟩
/-- a caller's list of numbers -/
inductive ArgL (F : HL) : Option Addr → Nat → List Int → Prop
  | zero (A : Option Addr) : ArgL F A 0 []
  | cells (q o N : Nat) (g : Nat → Nat → Value) (ty : TypeId) (fz : Nat × Nat) (xs : List Int) (hq : (q, .rows 1 N g ty fz) ∈ F) (ho : o + xs.length ≤ N) (hx : ∀ k, k < xs.length → g (o + k) 0 = vI (xs.getD k 0)) (hb : ∀ k, k < xs.length → i64r (xs.getD k 0)) : ArgL F (some ⟨q, o, none⟩) xs.length xs
theorem ArgL.up {F X : HL} {A : Option Addr} {n : Nat} {xs : List Int} (h : ArgL F A n xs) : ArgL (X ++ F) A n xs := by
  cases h with
  | zero => exact .zero _
  | cells q o N g ty fz xs hq ho hx hb => exact .cells q o N g ty fz xs (List.mem_append_right _ hq) ho hx hb
theorem ArgL.len {F : HL} {A : Option Addr} {n : Nat} {xs : List Int} (h : ArgL F A n xs) : xs.length = n := by
  cases h <;> rfl
theorem ArgL.at {F : HL} {A : Option Addr} {n : Nat} {xs : List Int} (h : ArgL F A n xs) {k : Nat} (hk : k < n) : ∃ q o N g ty fz, A = some ⟨q, o, none⟩ ∧ (q, .rows 1 N g ty fz) ∈ F ∧ o + k < N ∧ g (o + k) 0 = vI (xs.getD k 0) ∧ i64r (xs.getD k 0) := by
  cases h with
  | zero => omega
  | cells q o N g ty fz xs hq ho hx hb => exact ⟨q, o, N, g, ty, fz, rfl, hq, by omega, hx k hk, hb k hk⟩
def kv (xs : List Int) (i : Nat) : Int := if i < xs.length then around (xs.getD i 0) 1000000 else 0
theorem kv_bd {F : HL} {A : Option Addr} {n : Nat} {xs : List Int} (h : ArgL F A n xs) (i : Nat) : 0 ≤ kv xs i ∧ kv xs i < 1000000 := by
  unfold kv
  split
  · next hi =>
    rw [h.len] at hi
    obtain ⟨_, _, _, _, _, _, _, _, _, _, hr⟩ := h.at hi
    exact around_bd hr 1000000 (by decide)
  · omega
def ks (xs : List Int) (n : Nat) : List Int := (List.range n).map (kv xs)
theorem ks_len (xs : List Int) (n : Nat) : (ks xs n).length = n := by simp [ks]
theorem ks_succ (xs : List Int) (n : Nat) : ks xs (n + 1) = ks xs n ++ [kv xs n] := by simp [ks, List.range_succ]
theorem ks_get {xs : List Int} {n i : Nat} (h : i < n) : (ks xs n).getD i 0 = kv xs i := by simp [ks, h]
end Go.Proofs.YtpkincoclhpcgaaGreatDoor
