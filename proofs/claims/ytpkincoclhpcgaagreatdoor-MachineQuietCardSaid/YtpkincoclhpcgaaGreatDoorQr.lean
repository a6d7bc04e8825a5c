/- Quiet: the row (under way: not built). -/
import Derived.Test.YtpkincoclhpcgaaGreatDoorRows
import Derived.Test.YtpkincoclhpcgaaGreatDoorQb
import Derived.ProofKit
import Derived.OpenShut
import Derived.Carry
import Derived.WideKeyArr2
namespace Go.Proofs.YtpkincoclhpcgaaGreatDoor
set_option linter.unusedSimpArgs false
set_option linter.unusedVariables false
open Go.ChangeShapes Go.WideShapes Go.ChangeAt Go.RowKit Go.WideMaps

theorem own_knob : ownKnob Tryz.prog.godebug = none := by kernel_rfl
theorem laid_out : laidOutB Tryz.prog = true := by kernel_rfl
theorem int_range {n : Int} (h : (Lit.int .i64 n).wf = true) : -9223372036854775808 ≤ n ∧ n ≤ 9223372036854775807 := bounds_i64 h

section
variable {H : Type} {enc : TypeId × Value → H} {P : Program} {W W' : World}
theorem trodAll_below (hl : laidOutB P = true) (hb : Below W.heap.size W W') : ∀ {ts : List TypeId} {vs : List Value} {ds : List (DataW H)} {ps : List MemPlace}, (∀ t ∈ ts, P.readableRec t = true ∧ t < P.types.size) →
    DataW.TrodAll enc P W 0 (fun _ => true) true ts vs ds ps → (∀ x ∈ ps, x.block < W.heap.size) → DataW.TrodAll enc P W' 0 (fun b => decide (b < W.heap.size)) true ts vs ds ps
  | [], _, _, _, _, h, _ => by
    obtain ⟨rfl, rfl, rfl⟩ := trodAll_nil h
    exact trodAll_mk0
  | t :: ts, _, _, _, ht, h, hlt => by
    obtain ⟨v, vs1, d, ds1, a, b, rfl, rfl, rfl, h1, h2⟩ := trodAll_cons h
    have h3 := ht t (by simp)
    exact trodAll_cons_mk (Below.trod hl h3.1 h3.2 h1 hb (fun x hx => hlt x (by simp [hx]))) (trodAll_below hl hb (fun t h => ht t (List.mem_cons_of_mem _ h)) h2 (fun x hx => hlt x (by simp [hx])))

theorem post_law {f : Func} {s : ChangeSpec} {apart fresh handsOn : Bool} {args : Array Value} {v : Value} {ds : List (DataW H)} {before : List MemPlace} (hl : laidOutB P = true)
    (hts : ∀ t ∈ f.params.toList, P.readableRec t = true ∧ t < P.types.size)
    (hW : DataW.Whole enc P f.params.toList s.vars apart W args.toList ds [] before) (hs : s.vars = [])
    (hA : DataW.TrodAll enc P W 0 (fun _ => true) true f.params.toList args.toList ds before)
    (hres : ∀ (b : Nat) (sp : Nat → Bool) (hd : Bool), DataW.TrodAll enc P W' b sp hd f.resultTypes.toList (v.resultList f.resultTypes.size) (s.fn H (ds ++ [])).results [])
    (hargs : (s.fn H (ds ++ [])).args = ds) (hvars : ∀ sp, DataW.TrodVars enc P W' sp s.vars (s.fn H (ds ++ [])).vars []) (hb : Below W.heap.size W W') :
    s.post enc P f apart fresh handsOn false W args v W' := by
  refine ⟨ds, [], before, [], before, [], hW, hres _ _ _, ?_, hvars _, hb.frame _, fun h => by cases h⟩
  rw [hargs]
  exact trodAll_below hl hb hts hA (fun x hx => hW.lt x hx)
end
theorem arr_key : ArrKey Tryz.prog 22 3 3 := ⟨by kernel_rfl, by kernel_rfl, by kernel_rfl, by kernel_rfl⟩
end Go.Proofs.YtpkincoclhpcgaaGreatDoor
