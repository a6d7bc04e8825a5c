/- The interpreter for closed calls: operations that make blocks, maps, appends. -/
import Derived.Test.YtlefngomddjahaaGreatDoorU36
namespace Go.Proofs.YtlefngomddjahaaGreatDoor
set_option linter.unusedSimpArgs false
set_option linter.unusedVariables false
open Go.RowKit
section nw
variable {ν ν' : Nu} {P : Program} {G N : Nat} {T T' : Tr Value} {a : Act} {H H' : AH} {F : HL} {w w' : World}
theorem newObj_run (o : Obj) (w : World) : (newObj o).run P w = .ok w.heap.size { w with heap := w.heap.push o } := rfl
def Mk.ok : Mk → Prop
  | .sl _ c => c < unk
  | _ => True
theorem Mk.rel {m : Mk} (h : m.ok) {n r K : Nat} (hν : ν n = some (r, K)) : VRi ν (m.val n) (m.val r) := by
  cases m with
  | ptr => exact .ptr 0 hν
  | sl l c => exact .slice 0 l hν ⟨fun _ => rfl, fun e => by unfold Mk.ok at h; omega⟩
  | mp => exact .map hν
theorem repL_len (z : List Value) (n : Nat) : (repL z n).length = n * z.length := by
  induction n with
  | zero => simp [repL]
  | succ n ih => simp [repL, ih, Nat.succ_mul]; omega
theorem repL_get (z : List Value) : ∀ (n i : Nat), i < n * z.length → (repL z n)[i]? = z[i % z.length]?
  | 0, i, h => by omega
  | n + 1, i, h => by
    rw [repL]
    rcases Nat.lt_or_ge i z.length with h1 | h1
    · rw [List.getElem?_append_left h1, Nat.mod_eq_of_lt h1]
    · rw [List.getElem?_append_right h1, repL_get z n _ (by rw [Nat.succ_mul] at h; omega), Nat.mod_eq_sub_mod h1]
theorem range_rep (z : List Value) (n : Nat) (hz : 0 < z.length) : (Array.range (n * z.length)).map (fun i => (⟨z⟩ : Array Value)[i % (⟨z⟩ : Array Value).size]!) = ⟨repL z n⟩ := by
  apply Array.ext'
  apply List.ext_getElem?
  intro i
  rcases Nat.lt_or_ge i (n * z.length) with h | h
  · have h2 : i % z.length < z.length := Nat.mod_lt _ hz
    simp only [Array.toList_map, Array.toList_range, List.getElem?_map, List.getElem?_range h, Option.map_some]
    rw [repL_get z n i h]
    simp [h2]
  · rw [List.getElem?_eq_none (by simp; exact h), List.getElem?_eq_none (by rw [repL_len]; exact h)]
theorem repL_rel {z : List Value} (h : LR ν z z) : ∀ n, LR ν (repL z n) (repL z n)
  | 0 => .nil
  | n + 1 => h.append (repL_rel h n)
theorem elemT_und {t el : TypeId} (h : elemT P t = some el) : P.underlying t = some (.slice el) := by
  unfold elemT at h
  split at h
  · rename_i e; cases h; exact e
  · cases h
theorem newV_ok {o : Oper} {b : AB} {m : Mk} (h : newV P o T = some (b, m)) {l : List Operand} (hl : opsOf o.op = some l) (hok : OK ν T a l) :
    wrb b = true ∧ m.ok ∧ ∃ o', (∀ K, OR ν K b o') ∧ ∀ w, (execOp a.eval o).run P w = .ok (.value (m.val w.heap.size)) { w with heap := w.heap.push o' } := by
  unfold newV at h
  split at h
  · rename_i t ho
    split at h
    · rename_i z hz
      cases h
      obtain ⟨zv, h1, h2, h3, -⟩ := zeroT_run (ν := ν) hz
      refine ⟨wrb_cellsB _ _, trivial, _, fun K => OR.cellsB h3, fun w => ?_⟩
      simp [execOp, ho, Instr.alloc, Sem.run_bind, h1, newVar, newRow, h2, newObj_run, run_pu, Result.andThen, Mk.val]
    · cases h
  · rename_i t x ho
    rw [ho] at hl; simp only [opsOf, Option.some.injEq] at hl; subst hl
    cases h
    refine ⟨wrb_cellsB _ _, trivial, _, fun K => OR.cellsB (cellsL_rel (hok x (by simp))), fun w => ?_⟩
    simp [execOp, ho, Instr.box, Sem.run_bind, newVar, newRow, newObj_run, run_pu, Result.andThen, Mk.val, cellsL_eq]
  · rename_i t len parts ho
    rw [ho] at hl; simp only [opsOf, Option.some.injEq] at hl; subst hl
    split at h
    case h_2 => cases h
    rename_i el he
    split at h
    case h_2 => cases h
    rename_i k z hk hz
    split at h
    case h_2 => cases h
    rename_i g1 g2 g3
    split at h
    case h_2 => cases h
    rename_i l hf
    cases h
    have hu := elemT_und he
    have hzl : z.length = k := by rw [lenL_eq] at g2; exact Nat.eq_of_beq_eq_true g2
    have hk0 := blt_lt g3
    have g1' := le_of_ble g1
    obtain ⟨zv, h1, h2, h3, -⟩ := zeroT_run (ν := ν) hz
    obtain ⟨l', e1, e2⟩ := fillA_rel (partsA_rel hok) (repL_rel h3 len) hf
    refine ⟨wrb_cellsB _ _, ?_, _, fun K => OR.cellsB e2, fun w => ?_⟩
    · have : len ≤ len * k := Nat.le_mul_of_pos_right _ hk0
      show len < unk
      unfold unk; omega
    have h6 := fillA_fill e1
    have h7 : (parts.map fun (p : Nat × Operand) => (p.1, a.eval p.2)).toList = parts.toList.map fun p => (p.1, a.eval p.2) := by simp
    have h8 := range_rep z len (by omega)
    rw [hzl] at h8
    have hs := sizeT_run hk w
    unfold Go.execOp
    rw [ho]
    simp only
    rw [Sem.run_bind]
    have : (Instr.buildSlice t len (parts.map fun (p : Nat × Operand) => (p.1, a.eval p.2))).run P w = .ok (.slice (some ⟨w.heap.size, 0, none⟩) len len) { w with heap := w.heap.push (.cells ⟨l'⟩ el (0, 0)) } := by
      unfold Instr.buildSlice
      rw [Sem.run_bind, und_run hu]
      simp only [Result.andThen_ok]
      rw [Sem.run_bind, hs]
      simp only [Result.andThen_ok]
      rw [if_neg (by simp; omega)]
      by_cases hl0 : len * k = 0
      · have hlen : len = 0 := by
          rcases Nat.eq_zero_or_pos len with e | e
          · exact e
          · have := Nat.mul_pos e hk0; omega
        subst hlen
        simp only [Nat.zero_mul, if_true]
        rw [Sem.run_bind]
        simp only [run_pu, Result.andThen_ok]
        have h9 : (Array.range 0).map (fun i => (#[] : Array Value)[i % (#[] : Array Value).size]!) = ⟨repL z 0⟩ := by simp [repL]
        rw [h9, h7, h6]
        simp only [Sem.run_bind, newRow, newObj_run, Result.andThen_ok, run_pu]
      · rw [if_neg hl0]
        rw [Sem.run_bind, h1]
        simp only [Result.andThen_ok]
        rw [Sem.run_bind]
        simp only [run_pu, Result.andThen_ok, h2]
        rw [h8, h7, h6]
        simp only [Sem.run_bind, newRow, newObj_run, Result.andThen_ok, run_pu]
    rw [this]
    rfl
  · rename_i t lo co ho
    rw [ho] at hl; simp only [opsOf, Option.some.injEq] at hl; subst hl
    split at h
    case h_2 => cases h
    rename_i el he
    split at h
    case h_2 => cases h
    rename_i inf hi
    split at h
    case h_2 => cases h
    rename_i z n m' hz hn hm
    split at h
    case h_2 => cases h
    rename_i g1 g2 g3 g4 g5 g6
    cases h
    have hu := elemT_und he
    have hzl : z.length = inf.size := by rw [lenL_eq] at g4; exact Nat.eq_of_beq_eq_true g4
    have hk0 := blt_lt g5
    have g1' := le_of_ble g1
    have g2' := le_of_ble g2
    have g3' := blt_lt g3
    have g6' := blt_lt g6
    obtain ⟨zv, h1, h2, h3, -⟩ := zeroT_run (ν := ν) hz
    obtain ⟨kn, en⟩ := asN_eq hn (hok lo (by simp))
    obtain ⟨km, em⟩ := asN_eq hm (hok co (by simp))
    refine ⟨wrb_cellsB _ _, g3', _, fun K => OR.cellsB (repL_rel h3 m'), fun w => ?_⟩
    have h8 := range_rep z m' (by omega)
    rw [hzl] at h8
    unfold unk at g3'
    have w1 : IntKind.i64.wrap (n : Int) = (n : Int) := IntWalk.i64_in _ (by omega)
    have w2 : IntKind.i64.wrap (m' : Int) = (m' : Int) := IntWalk.i64_in _ (by omega)
    have hsz : sizeT P el = some inf.size := by unfold sizeT; rw [hi]; rfl
    have hs := sizeT_run hsz
    have hti := fun W => info_run hi W
    have q1 : ¬ ((281474976710656 : Int) < (inf.bytes : Int) * (m' : Int)) := by
      have : (inf.bytes : Int) * (m' : Int) = ((inf.bytes * m' : Nat) : Int) := by simp
      omega
    have q2 : ¬ ((m' : Int) < 0) := by omega
    have q3 : ¬ ((n : Int) < 0) := by omega
    have q4 : ¬ ((m' : Int) < (n : Int)) := by omega
    have hroom : ∀ x W, (askRoom x).run P W = .ok () W := fun x W => by unfold askRoom; split <;> rfl
    unfold Go.execOp
    rw [ho]
    simp only
    rw [Sem.run_bind]
    have : (Instr.makeSlice t (a.eval lo) (a.eval co)).run P w = .ok (.slice (some ⟨w.heap.size, 0, none⟩) n m') { w with heap := w.heap.push (.cells ⟨repL z m'⟩ el (0, 0)) } := by
      unfold Instr.makeSlice
      rw [Sem.run_bind, und_run hu]
      simp only [Result.andThen_ok]
      rw [en, em]
      simp only [asInt, asIntOf, Sem.run_bind, run_pu, Result.andThen_ok, hti, w1, w2]
      rw [if_neg (by simp [q1, q2, q3, q4])]
      simp only [Sem.run_bind, hroom, Result.andThen_ok, hs, Int.toNat_natCast]
      by_cases hl0 : m' * inf.size = 0
      · have hlen : m' = 0 := by
          rcases Nat.eq_zero_or_pos m' with e | e
          · exact e
          · have := Nat.mul_pos e hk0; omega
        subst hlen
        simp only [Nat.zero_mul, if_true]
        rw [Sem.run_bind]
        simp only [run_pu, Result.andThen_ok]
        have h9 : (Array.range 0).map (fun i => (#[] : Array Value)[i % (#[] : Array Value).size]!) = ⟨repL z 0⟩ := by simp [repL]
        rw [h9]
        simp only [Sem.run_bind, newRow, newObj_run, Result.andThen_ok, run_pu]
      · rw [if_neg hl0]
        simp only [Sem.run_bind, h1, run_pu, Result.andThen_ok, h2]
        rw [h8]
        simp only [Sem.run_bind, newRow, newObj_run, Result.andThen_ok, run_pu]
    rw [this]
    rfl
  · rename_i t r ho
    have hmk : ∀ W : World, (newObj (.map #[] 0)).run P W = .ok W.heap.size { W with heap := W.heap.push (.map #[] 0) } := fun W => rfl
    split at h
    · cases h
      refine ⟨rfl, trivial, .map #[] 0, fun K => ⟨rfl, .nil⟩, fun w => ?_⟩
      simp [execOp, ho, Instr.makeMap, Sem.run_bind, hmk, run_pu, Result.andThen, Mk.val]
    · rename_i r
      rw [ho] at hl; simp only [opsOf, Option.some.injEq] at hl; subst hl
      split at h
      · rename_i kt et k n hu he
        cases h
        have hr := hok r (by simp)
        rw [he] at hr
        have er := hr.plain_eq rfl
        refine ⟨rfl, trivial, .map #[] 0, fun K => ⟨rfl, .nil⟩, fun w => ?_⟩
        simp [execOp, ho, Instr.makeMap, Sem.run_bind, und_run hu, er, asInt, asIntOf, hmk, run_pu, Result.andThen, Mk.val]
      · cases h
  · cases h
/-! ### maps written -/
theorem eqKey_eq {d : TypeDesc} {k k' : Value} (h : eqKey k k' = some true) (hk : keyD d k = true) : k' = k ∧ Instr.sameBits 10000 k' k = true := by
  unfold eqKey at h
  split at h
  · split at h
    · rename_i e
      have e' := of_decide_eq_true e
      simp only [Option.some.injEq, beq_iff_eq] at h
      subst e'; subst h
      exact ⟨rfl, by simp [Instr.sameBits]⟩
    · cases h
  · simp only [Option.some.injEq] at h
    have := ba_eq.1 h
    subst this
    exact ⟨rfl, by simp [Instr.sameBits]; exact ba_self _⟩
  · simp only [Option.some.injEq, beq_iff_eq] at h
    subst h
    exact ⟨rfl, by simp [Instr.sameBits]⟩
  · cases h
theorem putKey_now {d : TypeDesc} {k v v' : Value} (hk : keyD d k = true) (hv : VRi ν v v') {es : List (Value × Value × Nat)} {es' : List MapEntry} (h : ER ν es es') : ∀ {r : List (Value × Value × Nat)} {cl cl' : Nat} (i : Nat), putKey k v cl es = some (r, cl') →
    (Instr.findNow d k es' i = some none ∧ cl' = cl + 1 ∧ ER ν r (es' ++ [⟨k, v', cl⟩])) ∨ (∃ j u, Instr.findNow d k es' i = some (some (i + j, u)) ∧ cl' = cl ∧ (es'[j]?).map (·.key) = some k ∧ Instr.sameBits 10000 k k = true ∧ ER ν r (es'.modify j fun e => { e with key := k, val := v' })) := by
  induction h with
  | nil => intro r cl cl' i h; rw [putKey] at h; cases h; exact .inl ⟨rfl, rfl, .cons k cl hv .nil⟩
  | @cons u0 u0' l0 l0' k' b hv0 h0 ih =>
    intro r cl cl' i h
    rw [putKey] at h
    split at h
    · rename_i e
      cases h
      obtain ⟨e1, e2⟩ := eqKey_eq e hk
      subst e1
      refine .inr ⟨0, u0', ?_, rfl, rfl, e2, .cons k' b hv h0⟩
      rw [Instr.findNow]; simp only [eqKey_same e hk]; rfl
    · rename_i e
      split at h
      · rename_i l c hl
        cases h
        rcases ih (i + 1) hl with ⟨h1, h2, h3⟩ | ⟨j, u, h1, h2, h3, h4, h5⟩
        · exact .inl ⟨by rw [Instr.findNow]; simp only [eqKey_same e hk]; exact h1, h2, .cons k' b hv0 h3⟩
        · refine .inr ⟨j + 1, u, ?_, h2, by simpa using h3, h4, by simpa using ER.cons k' b hv0 h5⟩
          rw [Instr.findNow]; simp only [eqKey_same e hk]; rw [h1]; congr 3; omega
      · cases h
    · cases h
theorem updA_ok {t : TypeId} {m m' k v v' : Value} (hH : HR ν H F w) (hm : VRi ν m m') (hv : VRi ν v v') (h : updA P t H m k v = some H') : pl k = true ∧ ∃ w', (Instr.mapUpdate t m' k v').run P w = .ok () w' ∧ HR ν H' F w' ∧ Below 0 w w' := by
  unfold updA at h
  split at h
  case h_2 => cases h
  rename_i kt et hu
  split at h
  case h_2 => cases h
  rename_i r hk
  split at h
  case h_2 => cases h
  rename_i es cl hb
  split at h
  case h_2 => cases h
  rename_i es2 cl2 hp
  cases h
  obtain ⟨d, hd, hkd⟩ := keyT_d hk
  refine ⟨(keyD_plain hkd).1, ?_⟩
  cases hm with
  | atom _ h => simp [atomV] at h
  | @map _ b K hν =>
  obtain ⟨es', hw, hE⟩ := hH.map hb hν
  have hg : (getObj b).run P w = .ok (.map es' cl) w := getObj_run hw
  have hf : ∀ r, Instr.findNow d k es'.toList 0 = some r → (Instr.findKey kt k es'.toList).run P w = .ok r w := fun r hr => by
    unfold Instr.findKey
    rw [Sem.run_bind, und_run hd]
    simp only [Result.andThen_ok, hr]
    rfl
  have hlt := lt_of_heap' hw
  have hst : ∀ o : Obj, (∃ es c, o = .map es c) → (setObj b o).run P w = .ok () { w with heap := w.heap.setIfInBounds b o } := fun o ho => by
    obtain ⟨e1, c1, rfl⟩ := ho
    unfold setObj
    rw [Sem.run.eq_def]
    simp only [hw]
    rfl
  have hup : ∀ (o : Obj), OR ν K (.map es2 cl2) o → HR ν (hset H r (some (.map es2 cl2))) F { w with heap := w.heap.setIfInBounds b o } := fun o ho => by
    refine hH.upd (r := b) (K := K) hb rfl rfl hν (o' := o) ?_ ho (fun k hk => ?_)
    · show (w.heap.setIfInBounds b o)[b]? = _
      rw [Array.getElem?_setIfInBounds_self_of_lt hlt]
    · show (w.heap.setIfInBounds b o)[k]? = _
      rw [Array.getElem?_setIfInBounds_ne (Ne.symm hk)]
  have hB : ∀ o : Obj, Below 0 w { w with heap := w.heap.setIfInBounds b o } := fun o => ⟨rfl, rfl, rfl, by simp, fun k hk => by omega⟩
  rcases putKey_now hkd hv hE 0 hp with ⟨h1, h2, h3⟩ | ⟨j, u, h1, h2, h3, h4, h5⟩
  · refine ⟨_, ?_, hup (.map (es'.push ⟨k, v', cl⟩) (cl + 1)) ⟨h2.symm, by simpa using h3⟩, hB _⟩
    unfold Instr.mapUpdate
    rw [Sem.run_bind, und_run hu]
    simp only [Result.andThen_ok, Sem.run_bind, hg, checkKey_run hk, hf _ h1]
    exact hst _ ⟨_, _, rfl⟩
  · rw [Nat.zero_add] at h1
    refine ⟨_, ?_, hup (.map (es'.modify j fun e => { e with key := k, val := v' }) cl) ⟨h2.symm, by rw [Array.toList_modify]; exact h5⟩, hB _⟩
    unfold Instr.mapUpdate
    rw [Sem.run_bind, und_run hu]
    simp only [Result.andThen_ok, Sem.run_bind, hg, checkKey_run hk, hf _ h1]
    have h6 : (es'[j]?).map (·.key) = some k := by simpa using h3
    rw [h6]
    have h7 : (Instr.keyThatStays k k).run P w = .ok k w := by
      unfold Instr.keyThatStays
      rw [if_pos h4]; rfl
    simp only [Option.getD_some, h7, Result.andThen_ok]
    exact hst _ ⟨_, _, rfl⟩
end nw
end Go.Proofs.YtlefngomddjahaaGreatDoor
