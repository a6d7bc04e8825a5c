import Derived.Test.YtllcankinjomaaaA7
import Derived.Test.YtllcankinjomaaaMap
namespace Go.Proofs.Ytllcankinjomaaa
set_option linter.unusedSimpArgs false
set_option linter.unusedVariables false
open Go.RowKit Go.MapKept

theorem equal51 (x y : Eff) (w : World) : (Op.equal 51 x.v y.v).run Try.prog w = .ok (decide (x = y)) w := by
  have h := eql51 x y w
  rw [run_eql_struct] at h
  unfold Op.equal Op.maxDepth
  cases hr : (Op.equalIn 10000 51 x.v y.v).run Try.prog w with
  | ok b w' =>
    simp only [Eff.v] at hr
    rw [hr] at h
    simp only [Result.andThen_ok, Result.ok.injEq, Value.bool.injEq] at h
    rw [h.1, h.2]
  | halt x w' =>
    simp only [Eff.v] at hr
    rw [hr] at h
    simp [Result.andThen] at h

set_option maxHeartbeats 400000 in
theorem check51 (x : Eff) (e : Bool) (w : World) : (Instr.checkKey e 10000 51 x.v).run Try.prog w = .ok () w := by
  obtain ⟨a0, a1, a2, a3⟩ := x
  have hc : ∀ (a : Int) (w' : World), (Instr.checkKey e 9999 3 (.int .i64 a)).run Try.prog w' = .ok () w' := fun a w' => run_checkKey (k := .int .i64 a) Try.underlying3 (show IsKey (.int .i64) (.int .i64 a) from rfl) e 9998
  unfold Instr.checkKey
  go_simp

theorem eff_key : KeyLaw Try.prog 51 Eff.v where
  check k e w := check51 k e w
  find k l ks h w := by
    obtain ⟨a, hr, ha⟩ := find_asking (P := Try.prog) (kt := 51) (enc := Eff.v) equal51 k l ks 0 h w
    refine ⟨a, ?_, ?_⟩
    · cases l with
      | nil =>
        have : a = none := by
          unfold Instr.findAsking at hr
          simp at hr
          exact hr.symm
        subst this
        simp [Instr.findKey, Instr.findNow, run_underlying Try.underlying51, Result.andThen]
      | cons e l =>
        simp only [Instr.findKey, Sem.run_bind, run_underlying Try.underlying51, Result.andThen, Instr.findNow, Instr.sameNow]
        exact hr
    · cases a with
      | none => exact ha
      | some p =>
        obtain ⟨i, v⟩ := p
        obtain ⟨j, rfl, h1, e', h2, h3⟩ := ha
        exact ⟨by simpa using h1, e', by simpa using h2, h3⟩
  inj k k' h := by
    obtain ⟨a0, a1, a2, a3⟩ := k
    obtain ⟨b0, b1, b2, b3⟩ := k'
    simp only [Eff.v, Value.agg.injEq] at h
    simp at h
    simp [h]
  same k := by simp [Instr.sameBits, Eff.v]
end Go.Proofs.Ytllcankinjomaaa
