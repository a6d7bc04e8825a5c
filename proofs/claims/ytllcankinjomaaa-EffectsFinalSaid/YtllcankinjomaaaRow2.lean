import Derived.Test.YtllcankinjomaaaRow
import Derived.Test.YtllcankinjomaaaP7
namespace Go.Proofs.Ytllcankinjomaaa
set_option linter.unusedSimpArgs false
set_option linter.unusedVariables false
open Go.ChangeShapes Go.WideShapes Go.ChangeAt Go.RowKit

theorem open_sl {H : Type} {enc : TypeId × Value → H} {w : World} {r : Reach} {b0 : Nat} {v : Value} {d : DataW H} {ps : List MemPlace} (hval : Value.okWide Try.prog w r b0 22 v) (hd : DataW.Trod enc Try.prog w 0 (fun _ => true) true 22 v d ps) :
    ∃ (A : Option Addr) (n cap : Nat) (xs : List Int) (tt : TypeId), v = .slice A n cap ∧ n ≤ 9223372036854775807 ∧ SlI tt w A n xs ∧ ∀ x ∈ xs, -9223372036854775808 ≤ x ∧ x ≤ 9223372036854775807 := by
  obtain ⟨a0, len, cap, rfl⟩ := okWide_slice Try.underlying22 hval
  obtain ⟨fuel, hf⟩ := hd
  rcases open_ints Try.underlying22 Try.underlying3 (by kernel_rfl) hf with ⟨hcs, hx⟩ | ⟨a, len', cap', zs, hcs, _, hl, hm, hz, hx, hcell, hwz⟩
  · simp [Value.cells] at hcs
    obtain ⟨rfl, rfl, rfl⟩ := hcs
    exact ⟨none, 0, 0, [], 0, rfl, by omega, Sl.nil, by simp⟩
  · simp [Value.cells] at hcs
    obtain ⟨rfl, rfl, rfl⟩ := hcs
    unfold maxLen at hm
    simp at hz
    cases hzs : zs with
    | nil =>
      rw [hzs] at hz
      simp at hz
      have : len = 0 := by omega
      subst this
      exact ⟨some a, 0, _, [], 0, rfl, by omega, Sl.nil, by simp⟩
    | cons z zs' =>
      obtain ⟨b, off, spot⟩ := a
      have h0 := hcell 0 (by rw [hzs]; simp)
      have hsp : spot = none := by
        cases spot with
        | none => rfl
        | some s => simp [Addr.add, World.cell?] at h0; split at h0 <;> simp at h0
      subst hsp
      obtain ⟨tt, hs⟩ := SlI.of_cells (w := w) (b := b) (off := off) (cap := 0) (zs := zs) (fun i hi => by
        have := hcell i hi
        unfold Addr.add at this
        by_cases h : i = 0
        · subst h; simpa using this
        · rw [if_neg h] at this; exact this)
      refine ⟨some ⟨b, off, none⟩, len, cap, zs.take len, tt, rfl, by omega, hs.take (by omega), fun x hx => int_range (hwz x (List.mem_of_mem_take hx))⟩
end Go.Proofs.Ytllcankinjomaaa
