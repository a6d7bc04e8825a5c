/- Quiet: the law's function returns true. -/
import Derived.Test.YtpkincoclhpcgaaGreatDoorGs
import Derived.Test.YtpkincoclhpcgaaGreatDoorGt
import Derived.Test.YtpkincoclhpcgaaGreatDoorGu
namespace Go.Proofs.YtpkincoclhpcgaaGreatDoor
set_option linter.unusedSimpArgs false
set_option linter.unusedVariables false
open Go.RowKit
theorem quiet_any (players f0 f1 f2 version : Int) (F : HL) (hp : i64r players) (hf : i64r f0 ∧ i64r f1 ∧ i64r f2) (hv : i64r version) : Sp Tryz.prog 3 #[vI players, .agg #[vI f0, vI f1, vI f2], vI version] [] F (fun u H' => u = .bool true ∧ H' = []) := by
  have h := around_bd hp 3 (by decide)
  have h3 : around players 3 = 0 ∨ around players 3 = 1 ∨ around players 3 = 2 := by omega
  rcases h3 with h | h | h
  · exact quiet1 players f0 f1 f2 version F hf hv h
  · exact quiet2 players f0 f1 f2 version F hf hv h
  · exact quiet3 players f0 f1 f2 version F hf hv h
theorem Sp.calls {P : Program} {f : FuncId} {args : Array Value} {v : Value} (h : ∀ F, Sp P f args [] F (fun u H' => u = v ∧ H' = [])) (w : World) : Calls P f args w fun e w' => e = .returned v ∧ Below w.heap.size w w' := by
  have hR : Rel ([] ++ List.ofFn (fun k : Fin w.heap.size => (k.1, Blk.obj w.heap[k.1]))) w := by
    refine ⟨fun x hx => ?_, ?_⟩
    · obtain ⟨k, rfl⟩ := List.mem_ofFn.1 hx
      simp [Blk.den]
    · rw [List.nil_append, List.map_ofFn]
      have e : List.ofFn ((fun x : Nat × Blk => x.1) ∘ fun k : Fin w.heap.size => (k.1, Blk.obj w.heap[k.1])) = List.range w.heap.size := by
        apply List.ext_getElem
        · simp
        · intro i h1 h2; simp
      rw [e]
      exact List.nodup_range
  refine (h _ w hR).mono ?_
  rintro e w' ⟨u, H', rfl, ⟨rfl, rfl⟩, hR', hB⟩
  refine ⟨rfl, hB.os, hB.tape, hB.output, hB.size, fun k hk => ?_⟩
  have := hR'.holds (k, Blk.obj w.heap[k]) (by simp only [List.nil_append]; exact List.mem_ofFn.2 ⟨⟨k, hk⟩, rfl⟩)
  rw [this]
  simp [Blk.den, hk]
theorem quiet_calls (players f0 f1 f2 version : Int) (w : World) (hp : i64r players) (hf : i64r f0 ∧ i64r f1 ∧ i64r f2) (hv : i64r version) : Calls Tryz.prog 3 #[vI players, .agg #[vI f0, vI f1, vI f2], vI version] w fun e w' => e = .returned (.bool true) ∧ Below w.heap.size w w' :=
  Sp.calls (fun F => quiet_any players f0 f1 f2 version F hp hf hv) w
end Go.Proofs.YtpkincoclhpcgaaGreatDoor
