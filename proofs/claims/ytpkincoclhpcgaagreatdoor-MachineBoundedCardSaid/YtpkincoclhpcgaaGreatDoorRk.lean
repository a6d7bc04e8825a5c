/- The rows of laws whose arguments are numbers and lists of numbers: what their steps share. -/
import Derived.Test.YtpkincoclhpcgaaGreatDoorRows
import Derived.Test.YtpkincoclhpcgaaGreatDoorChecked
import Derived.Test.YtpkincoclhpcgaaGreatDoorKo
import Derived.ProofKit
import Derived.OpenShut
import Derived.Carry
import Derived.Lay
import Derived.LaidHandle
import Derived.ChangeSlices
namespace Go.Proofs.YtpkincoclhpcgaaGreatDoor
set_option linter.unusedSimpArgs false
set_option linter.unusedVariables false
open Go.ChangeShapes Go.WideShapes Go.ChangeAt Go.RowKit

theorem own_knob : ownKnob Tryz.prog.godebug = none := by kernel_rfl
theorem laid_out : laidOutB Tryz.prog = true := by kernel_rfl
theorem int_range {n : Int} (h : (Lit.int .i64 n).wf = true) : -9223372036854775808 ≤ n ∧ n ≤ 9223372036854775807 := bounds_i64 h

section
variable {H : Type} {enc : TypeId × Value → H} {P : Program} {W W' : World}
theorem trodAll_below (hl : laidOutB P = true) (hb : Below W.heap.size W W') : ∀ {ts : List TypeId} {vs : List Value} {ds : List (DataW H)} {ps : List MemPlace}, (∀ t ∈ ts, P.readableRec t = true ∧ t < P.types.size) →
    DataW.TrodAll enc P W 0 (fun _ => true) true ts vs ds ps → (∀ x ∈ ps, x.block < W.heap.size) → DataW.TrodAll enc P W' 0 (fun b => decide (b < W.heap.size)) true ts vs ds ps
  | [], _, _, _, _, h, _ => by
    obtain ⟨rfl, rfl, rfl⟩ := trodAll_nil h
    exact trodAll_mk0
  | t :: ts, _, _, _, ht, h, hlt => by
    obtain ⟨v, vs1, d, ds1, a, b, rfl, rfl, rfl, h1, h2⟩ := trodAll_cons h
    have h3 := ht t (by simp)
    exact trodAll_cons_mk (Below.trod hl h3.1 h3.2 h1 hb (fun x hx => hlt x (by simp [hx]))) (trodAll_below hl hb (fun t h => ht t (List.mem_cons_of_mem _ h)) h2 (fun x hx => hlt x (by simp [hx])))

theorem post_law {f : Func} {s : ChangeSpec} {apart fresh handsOn : Bool} {args : Array Value} {v : Value} {ds : List (DataW H)} {before : List MemPlace} (hl : laidOutB P = true)
    (hts : ∀ t ∈ f.params.toList, P.readableRec t = true ∧ t < P.types.size)
    (hW : DataW.Whole enc P f.params.toList s.vars apart W args.toList ds [] before) (hs : s.vars = [])
    (hA : DataW.TrodAll enc P W 0 (fun _ => true) true f.params.toList args.toList ds before)
    (hres : ∀ (b : Nat) (sp : Nat → Bool) (hd : Bool), DataW.TrodAll enc P W' b sp hd f.resultTypes.toList (v.resultList f.resultTypes.size) (s.fn H (ds ++ [])).results [])
    (hargs : (s.fn H (ds ++ [])).args = ds) (hvars : ∀ sp, DataW.TrodVars enc P W' sp s.vars (s.fn H (ds ++ [])).vars []) (hb : Below W.heap.size W W') :
    s.post enc P f apart fresh handsOn false W args v W' := by
  refine ⟨ds, [], before, [], before, [], hW, hres _ _ _, ?_, hvars _, hb.frame _, fun h => by cases h⟩
  rw [hargs]
  exact trodAll_below hl hb hts hA (fun x hx => hW.lt x hx)
end

/-- a block as rows of one cell -/
def blkOf : Obj → Blk
  | .cells cs ty fz => .rows 1 cs.size (fun i _ => cs.getD i default) ty fz
  | o => .obj o
theorem blkOf_den (o : Obj) : (blkOf o).den = o := by
  cases o with
  | cells cs ty fz =>
    show Obj.cells ⟨rowsOf 1 (fun i _ => cs.getD i default) cs.size⟩ ty fz = _
    congr 1
    have e : rowsOf 1 (fun i _ => cs.getD i default) cs.size = cs.toList := by
      refine rowsOf_ext (by simp) ?_
      intro i k hi hk
      obtain rfl : k = 0 := by omega
      simp [Array.getD, hi]
    rw [e]
  | _ => rfl
/-- all of a world's blocks -/
def worldF (w : World) : HL := List.ofFn (fun k : Fin w.heap.size => (k.1, blkOf w.heap[k.1]))
theorem worldF_mem {w : World} {k : Nat} {o : Obj} (h : w.heap[k]? = some o) : (k, blkOf o) ∈ worldF w := by
  obtain ⟨hk, he⟩ := Array.getElem?_eq_some_iff.1 h
  exact List.mem_ofFn.2 ⟨⟨k, hk⟩, by simp [he]⟩
theorem worldF_rel (w : World) : Rel (worldF w) w := by
  refine ⟨fun x hx => ?_, ?_⟩
  · obtain ⟨k, rfl⟩ := List.mem_ofFn.1 hx
    simp [blkOf_den]
  · unfold worldF
    rw [List.map_ofFn]
    have e : List.ofFn ((fun x : Nat × Blk => x.1) ∘ fun k : Fin w.heap.size => (k.1, blkOf w.heap[k.1])) = List.range w.heap.size := by
      apply List.ext_getElem
      · simp
      · intro i h1 h2; simp
    rw [e]
    exact List.nodup_range
set_option maxRecDepth 100000 in
theorem Sp.callsW {P : Program} {f : FuncId} {args : Array Value} {v : Value} (w : World) (h : Sp P f args [] (worldF w) (fun u H' => u = v ∧ H' = [])) : Calls P f args w fun e w' => e = .returned v ∧ Below w.heap.size w w' := by
  refine (h w (worldF_rel w)).mono ?_
  rintro e w' ⟨u, H', rfl, ⟨rfl, rfl⟩, hR', hB⟩
  refine ⟨rfl, hB.os, hB.tape, hB.output, hB.size, fun k hk => ?_⟩
  have := hR'.holds (k, blkOf w.heap[k]) (by rw [List.nil_append]; exact worldF_mem (by simp [hk]))
  rw [this]
  simp [blkOf_den, hk]
set_option maxRecDepth 100000 in
/-- an argument that is a list of numbers -/
theorem open_arg {H : Type} {enc : TypeId × Value → H} {w : World} {r : Reach} {b0 : Nat} {v : Value} {d : DataW H} {ps : List MemPlace} (hval : Value.okWide Tryz.prog w r b0 43 v) (hd : DataW.Trod enc Tryz.prog w 0 (fun _ => true) true 43 v d ps) :
    ∃ (A : Option Addr) (n cap : Nat) (xs : List Int), v = .slice A n cap ∧ n ≤ 9223372036854775807 ∧ ArgL (worldF w) A n xs := by
  obtain ⟨a0, len, cap, rfl⟩ := okWide_slice Tryz.underlying43 hval
  obtain ⟨fuel, hf⟩ := hd
  rcases open_ints Tryz.underlying43 Tryz.underlying3 (by kernel_rfl) hf with ⟨hcs, hx⟩ | ⟨a, len', cap', zs, hcs, _, hl, hm, hz, hx, hcell, hwz⟩
  · simp [Value.cells] at hcs
    obtain ⟨rfl, rfl, rfl⟩ := hcs
    exact ⟨none, 0, 0, [], rfl, by omega, .zero _⟩
  · simp [Value.cells] at hcs
    obtain ⟨rfl, rfl, rfl⟩ := hcs
    unfold maxLen at hm
    simp at hz
    rcases Nat.eq_zero_or_pos len with h0 | hpos
    · subst h0
      exact ⟨some a, 0, _, [], rfl, by omega, .zero _⟩
    · have hlz : len ≤ zs.length := by omega
      obtain ⟨b, off, spot⟩ := a
      have c0 := hcell 0 (by omega)
      have hsp : spot = none := by
        cases spot with
        | none => rfl
        | some s => simp [Addr.add, World.cell?] at c0; split at c0 <;> simp at c0
      subst hsp
      have hc : ∀ i, i < zs.length → w.cell? ⟨b, off + i, none⟩ = some (.int .i64 (zs.getD i 0)) := fun i hi => by
        have := hcell i hi
        unfold Addr.add at this
        by_cases h : i = 0
        · subst h; simpa using this
        · rw [if_neg h] at this; exact this
      have h0 := hc 0 (by omega)
      unfold World.cell? at h0
      split at h0
      case h_2 => cases h0
      rename_i cs ty fz hb
      refine ⟨some ⟨b, off, none⟩, len, cap, zs.take len, rfl, by omega, ?_⟩
      have hlen : (zs.take len).length = len := by rw [List.length_take]; omega
      have hcs : ∀ k, k < len → cs[off + k]? = some (vI ((zs.take len).getD k 0)) := fun k hk => by
        have h1 := hc k (by omega)
        unfold World.cell? at h1
        rw [show w.heap[(⟨b, off + k, none⟩ : Addr).block]? = some (.cells cs ty fz) from hb] at h1
        have h2 : cs[off + k]? = some (.int .i64 (zs.getD k 0)) := by simpa using h1
        rw [h2]
        simp [List.getD_eq_getElem?_getD, List.getElem?_take, hk]
      have hmem := worldF_mem hb
      have hle : off + len ≤ cs.size := by
        have h1 := hcs (len - 1) (by omega)
        have h2 := (Array.getElem?_eq_some_iff.1 h1).1
        omega
      have := ArgL.cells (F := worldF w) b off cs.size (fun i _ => cs.getD i default) ty fz (zs.take len) hmem (by rw [hlen]; exact hle) (fun k hk => by
        rw [hlen] at hk
        have h1 := hcs k hk
        simp only [Array.getD_eq_getD_getElem?]
        rw [h1]; rfl) (fun k hk => by
        rw [hlen] at hk
        have : (zs.take len).getD k 0 ∈ zs := by
          rw [List.getD_eq_getElem?_getD, List.getElem?_eq_getElem (by omega)]
          exact List.mem_of_mem_take (List.getElem_mem _)
        exact int_range (hwz _ this))
      rw [hlen] at this
      exact this
end Go.Proofs.YtpkincoclhpcgaaGreatDoor
