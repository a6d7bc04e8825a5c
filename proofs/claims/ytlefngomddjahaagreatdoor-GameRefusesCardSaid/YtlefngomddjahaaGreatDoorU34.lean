/- The interpreter for closed calls: frames; operations that look at no block. -/
import Derived.Test.YtlefngomddjahaaGreatDoorU33
namespace Go.Proofs.YtlefngomddjahaaGreatDoor
set_option linter.unusedSimpArgs false
set_option linter.unusedVariables false
open Go.RowKit
theorem sem_bind_assoc {α β γ : Type} (s : Sem α) (f : α → Sem β) (g : β → Sem γ) : (s.bind f).bind g = s.bind fun x => (f x).bind g := by
  induction s <;> simp only [Sem.bind] <;> first | rfl | (congr 1; funext x; rename_i ih; exact ih x) | (rename_i ih; rw [ih])
theorem sem_bind_pure {α : Type} (s : Sem α) : s.bind .pure = s := by
  induction s <;> simp only [Sem.bind] <;> first | rfl | (congr 1; funext x; rename_i ih; exact ih x) | (rename_i ih; rw [ih])
theorem sem_lawful : LawfulMonad Sem := LawfulMonad.mk' (m := Sem)
  (id_map := fun x => sem_bind_pure x) (pure_bind := fun _ _ => rfl) (bind_assoc := fun x f g => sem_bind_assoc x f g)
/-! ### lists -/
section lists
variable {ν : Nu} {P : Program}
theorem lenL_eq (l : List Value) : lenL l = l.length := by induction l with
  | nil => rfl
  | cons v l ih => simp [lenL, ih]
theorem cellsL_eq (v : Value) : cellsL v = v.cells.toList := by cases v <;> rfl
theorem cellsL_rel {v v' : Value} (h : VRi ν v v') : LR ν (cellsL v) (cellsL v') := by
  cases h with
  | atom v h => cases v <;> first | exact .cons (.atom _ h) .nil | simp [atomV] at h
  | ptr o h => exact .cons (.ptr o h) .nil
  | slice o n h c => exact .cons (.slice o n h c) .nil
  | map h => exact .cons (.map h) .nil
  | func hf e1 h1 e2 h2 => exact .cons (.func hf e1 h1 e2 h2) .nil
  | iface t h => exact .cons (.iface t h) .nil
  | agg e h => exact .of_arr e h
  | tuple e h => exact .cons (.tuple e h) .nil
theorem listGet_eq (l : List Value) (i : Nat) : listGet l i = l[i]? := by
  induction l generalizing i with
  | nil => rfl
  | cons v l ih => cases i with
    | zero => rfl
    | succ i => simpa [listGet] using ih i
theorem dropL_eq (l : List Value) (i : Nat) : dropL l i = l.drop i := by
  induction l generalizing i with
  | nil => simp [dropL]
  | cons v l ih => cases i with
    | zero => rfl
    | succ i => simpa [dropL] using ih i
theorem takeL_eq (l : List Value) (i : Nat) : takeL l i = l.take i := by
  induction l generalizing i with
  | nil => simp [takeL]
  | cons v l ih => cases i with
    | zero => rfl
    | succ i => simpa [takeL] using ih i
theorem LR.drop {l l' : List Value} (h : LR ν l l') (n : Nat) : LR ν (l.drop n) (l'.drop n) := by
  induction h generalizing n with
  | nil => simpa using LR.nil
  | cons h1 h2 ih => cases n with
    | zero => exact .cons h1 h2
    | succ n => simpa using ih n
theorem LR.take {l l' : List Value} (h : LR ν l l') (n : Nat) : LR ν (l.take n) (l'.take n) := by
  induction h generalizing n with
  | nil => simpa using LR.nil
  | cons h1 h2 ih => cases n with
    | zero => simpa using LR.nil
    | succ n => simpa using LR.cons h1 (ih n)
theorem putL0_rel {vs vs' : List Value} (h : LR ν vs vs') : ∀ {l l' r : List Value}, LR ν l l' → putL0 vs l = some r → ∃ r', putL0 vs' l' = some r' ∧ LR ν r r' := by
  induction h with
  | nil => intro l l' r hl e; rw [putL0] at e; cases e; exact ⟨_, rfl, hl⟩
  | cons hv _ ih =>
    intro l l' r hl e
    cases hl with
    | nil => simp [putL0] at e
    | cons h1 h2 =>
      rw [putL0] at e
      split at e
      · rename_i r0 hr
        cases e
        obtain ⟨r1, e1, e2⟩ := ih h2 hr
        exact ⟨_, by rw [putL0, e1], .cons hv e2⟩
      · cases e
theorem putLs_rel {vs vs' : List Value} (h : LR ν vs vs') : ∀ {l l' r : List Value} (i : Nat), LR ν l l' → putLs vs l i = some r → ∃ r', putLs vs' l' i = some r' ∧ LR ν r r' := by
  intro l l' r i hl
  induction hl generalizing i r with
  | nil =>
    intro e
    cases i with
    | zero => exact putL0_rel h .nil e
    | succ i => simp [putLs] at e
  | cons h1 h2 ih =>
    intro e
    cases i with
    | zero => exact putL0_rel h (.cons h1 h2) e
    | succ i =>
      rw [putLs] at e
      split at e
      · rename_i r0 hr
        cases e
        obtain ⟨r1, e1, e2⟩ := ih i hr
        exact ⟨_, by rw [putLs]; simp only [e1], .cons h1 e2⟩
      · cases e
inductive PR (ν : Nu) : List (Nat × Value) → List (Nat × Value) → Prop
  | nil : PR ν [] []
  | cons {v v' : Value} {l l' : List (Nat × Value)} (i : Nat) : VRi ν v v' → PR ν l l' → PR ν ((i, v) :: l) ((i, v') :: l')
theorem fillA_rel {place : Nat → Option (Nat × Nat)} {ps ps' : List (Nat × Value)} (h : PR ν ps ps') : ∀ {l l' r : List Value}, LR ν l l' → fillA place ps l = some r → ∃ r', fillA place ps' l' = some r' ∧ LR ν r r' := by
  induction h with
  | nil => intro l l' r hl e; rw [fillA] at e; cases e; exact ⟨_, rfl, hl⟩
  | cons i hv _ ih =>
    intro l l' r hl e
    rw [fillA] at e
    split at e
    · rename_i off k hp
      split at e
      · cases e
      · rename_i hb
        split at e
        · rename_i l1 hl1
          have hc := cellsL_rel hv
          obtain ⟨l2, e1, e2⟩ := putLs_rel hc off hl hl1
          obtain ⟨r', e3, e4⟩ := ih e2 e
          refine ⟨r', ?_, e4⟩
          rw [fillA, hp]
          simp only [e1, e3]
          rw [lenL_eq] at hb ⊢
          rw [hc.length, hb]
        · cases e
    · cases e
theorem putL0_nil (l : List Value) : putL0 [] l = some l := by cases l <;> rfl
theorem putLs_nil {l r : List Value} {i : Nat} (h : putLs [] l i = some r) : r = l := by
  induction l generalizing i r with
  | nil => cases i with
    | zero => rw [putLs] at h; simp only [putL0_nil] at h; cases h; rfl
    | succ i => simp [putLs] at h
  | cons x l ih => cases i with
    | zero => rw [putLs] at h; simp only [putL0_nil] at h; cases h; rfl
    | succ i =>
      rw [putLs] at h
      split at h
      · rename_i l1 hl; cases h; rw [ih hl]
      · cases h
theorem putLs_cons {v : Value} {vs l r : List Value} {i : Nat} (h : putLs (v :: vs) l i = some r) : i < l.length ∧ putLs vs (l.set i v) (i + 1) = some r := by
  induction l generalizing i r with
  | nil => cases i <;> simp [putLs, putL0] at h
  | cons x l ih => cases i with
    | zero =>
      rw [putLs] at h
      simp only [putL0] at h
      split at h
      · rename_i l1 hl
        cases h
        refine ⟨by simp, ?_⟩
        simp only [List.set_cons_zero]
        rw [putLs]
        cases l with
        | nil => rw [putLs]; simp only [hl]
        | cons y l => rw [putLs]; simp only [hl]
      · cases h
    | succ i =>
      rw [putLs] at h
      split at h
      · rename_i l1 hl
        cases h
        obtain ⟨h1, h2⟩ := ih hl
        refine ⟨by simp; omega, ?_⟩
        simp only [List.set_cons_succ]
        rw [putLs]; simp only [h2]
      · cases h
theorem putLs_len {vs l r : List Value} {i : Nat} (h : putLs vs l i = some r) : r.length = l.length ∧ (vs ≠ [] → i + vs.length ≤ l.length) := by
  induction vs generalizing l i with
  | nil => rw [putLs_nil h]; simp
  | cons v vs ih =>
    obtain ⟨h1, h2⟩ := putLs_cons h
    obtain ⟨h3, h4⟩ := ih h2
    rw [List.length_set] at h3 h4
    refine ⟨h3, fun _ => ?_⟩
    cases vs with
    | nil => simp; omega
    | cons u vs => have := h4 (by simp); simp at this ⊢; omega
theorem putLs_fold {vs l r : List Value} {off k : Nat} (h : putLs vs l (off + k) = some r) : (vs.zipIdx k).foldl (fun (cs : Array Value) p => cs.setIfInBounds (off + p.2) p.1) ⟨l⟩ = ⟨r⟩ := by
  induction vs generalizing l k with
  | nil => rw [putLs_nil h]; rfl
  | cons v vs ih =>
    obtain ⟨h1, h2⟩ := putLs_cons h
    rw [List.zipIdx_cons, List.foldl_cons]
    have := ih (l := l.set (off + k) v) (k := k + 1) h2
    simpa using this
theorem fillA_fill {place : Nat → Option (Nat × Nat)} : ∀ {ps : List (Nat × Value)} {l r : List Value}, fillA place ps l = some r → Instr.fill place ⟨l⟩ ps = some ⟨r⟩
  | [], l, r, h => by rw [fillA] at h; cases h; rfl
  | (i, v) :: ps, l, r, h => by
    rw [fillA] at h
    split at h
    · rename_i off k hp
      split at h
      · cases h
      · rename_i hs
        split at h
        · rename_i l1 hl1
          have hs' : (cellsL v).length = k + 1 := by rw [lenL_eq] at hs; exact Nat.eq_of_beq_eq_true hs
          have hsz : v.cells.size = k + 1 := by rw [← hs', cellsL_eq]; simp
          have hbd := (putLs_len hl1).2 (by intro e; rw [e] at hs'; simp at hs')
          rw [Instr.fill, hp]
          simp only
          rw [if_neg (by rw [hsz]; simp; omega)]
          have := putLs_fold (k := 0) (off := off) (by simpa using hl1)
          have e2 : (Array.foldl (fun (cs : Array Value) (x : Value × Nat) => cs.setIfInBounds (off + x.2) x.1) ⟨l⟩ v.cells.zipIdx) = ⟨l1⟩ := by
            rw [← Array.foldl_toList, Array.toList_zipIdx, ← cellsL_eq]
            exact this
          have e3 := fillA_fill (r := r) h
          rw [← e3, ← e2]
        · cases h
    · cases h
end lists
end Go.Proofs.YtlefngomddjahaaGreatDoor
/- The interpreter for closed calls: frames; operations that look at no block. -/
namespace Go.Proofs.YtlefngomddjahaaGreatDoor
set_option linter.unusedSimpArgs false
set_option linter.unusedVariables false
open Go.RowKit
structure TRel (ν : Nu) (N : Nat) (T : Tr Value) (tm : Array Value) : Prop where
  size : tm.size = N
  get : ∀ t, t < N → ∃ v', tm[t]? = some v' ∧ VRi ν (tget T t) v'
  out : ∀ t, N ≤ t → tget T t = undef
section fr
variable {ν ν' : Nu} {P : Program} {G N : Nat} {T T' : Tr Value} {a : Act}
theorem TRel.mono {tm : Array Value} (h : TRel ν N T tm) (hl : ν.Le ν') : TRel ν' N T tm :=
  ⟨h.size, fun t ht => let ⟨v', e, r⟩ := h.get t ht; ⟨v', e, r.mono hl⟩, h.out⟩
theorem TRel.set {tm : Array Value} (h : TRel ν N T tm) {d : Nat} {v v' : Value} (hd : d < N) (hv : VRi ν v v') : TRel ν N (tset T d v) (tm.setIfInBounds d v') := by
  refine ⟨by simp [h.size], fun t ht => ?_, fun t ht => ?_⟩
  · unfold tget tset
    rw [get_set_eq]
    by_cases e : d = t
    · subst e
      refine ⟨v', ?_, by simpa using hv⟩
      rw [Array.getElem?_setIfInBounds_self_of_lt (by rw [h.size]; exact hd)]
    · rw [if_neg e, Array.getElem?_setIfInBounds_ne e]
      exact h.get t ht
  · unfold tget tset
    rw [get_set_ne _ (by omega)]
    exact h.out t ht
theorem TRel.put (h : TRel ν N T a.tmps) {dst : Option Tmp} {v v' : Value} (hv : VRi ν v v') (hp : putT N dst v T = some T') : TRel ν N T' (a.put dst v').tmps := by
  unfold putT at hp
  split at hp
  · cases hp; exact h
  · rename_i d
    split at hp
    · rename_i hd
      cases hp
      exact h.set (Nat.lt_of_lt_of_le (Nat.lt_of_succ_le (Nat.le_of_ble_eq_true hd)) (Nat.le_refl _)) hv
    · cases hp
theorem put_defers (a : Act) (dst : Option Tmp) (v : Value) : (a.put dst v).defers = a.defers := by cases dst <;> rfl
structure FE (ν : Nu) (G N : Nat) (T : Tr Value) (a : Act) : Prop where
  t : TRel ν N T a.tmps
  g : ∀ k, k < G → ∃ K, ν k = some (k, K)
theorem FE.mono (h : FE ν G N T a) (hl : ν.Le ν') : FE ν' G N T a := ⟨h.t.mono hl, fun k hk => let ⟨K, e⟩ := h.g k hk; ⟨K, hl _ _ e⟩⟩
theorem blt_lt {a b : Nat} (h : Nat.blt a b = true) : a < b := Nat.le_of_ble_eq_true h
theorem FE.ael (h : FE ν G N T a) {x : Operand} (hx : aok G x = true) : VRi ν (ael T x) (a.eval x) := by
  cases x with
  | tmp t =>
    show VRi ν (tget T t) (a.eval (.tmp t))
    unfold Act.eval
    simp only
    rcases Nat.lt_or_ge t N with ht | ht
    · obtain ⟨v', e, r⟩ := h.t.get t ht
      simpa [e] using r
    · rw [h.t.out t ht, Array.getD_eq_getD_getElem?, Array.getElem?_eq_none (by rw [h.t.size]; exact ht)]
      exact VRi.undef
  | const v => exact .plain_refl _ hx
  | global g =>
    obtain ⟨K, e⟩ := h.g g (blt_lt hx)
    exact .ptr 0 e
  | func f => exact .func (.func f) rfl (by simp) rfl (by simp)
theorem aoks_mem {l : List Operand} (h : aoks G l = true) : ∀ x ∈ l, aok G x = true := by
  induction l with
  | nil => intro x hx; cases hx
  | cons y l ih =>
    rw [aoks] at h
    split at h
    · rename_i e
      intro x hx
      rcases List.mem_cons.1 hx with rfl | hx
      · exact e
      · exact ih h x hx
    · cases h
/-- the operands at hand -/
def OK (ν : Nu) (T : Tr Value) (a : Act) (l : List Operand) : Prop := ∀ x ∈ l, VRi ν (Go.Proofs.YtlefngomddjahaaGreatDoor.ael T x) (a.eval x)
theorem FE.ok (h : FE ν G N T a) {l : List Operand} (hl : aoks G l = true) : OK ν T a l := fun x hx => h.ael (aoks_mem hl x hx)
theorem prun_ok {α : Type} (s : Sem α) : ∀ {x : α}, prun P s = some x → ∀ w, s.run P w = .ok x w := by
  induction s with
  | pure a => intro x h w; rw [prun] at h; cases h; rfl
  | program k ih => intro x h w; rw [prun] at h; rw [Sem.run]; exact ih _ h w
  | mark m k ih => intro x h w; rw [prun] at h; rw [Sem.run]; exact ih h w
  | _ => intro x h; simp [prun] at h
theorem plains_mem {l : List Operand} (h : plains T l = true) : ∀ x ∈ l, pl (Go.Proofs.YtlefngomddjahaaGreatDoor.ael T x) = true := by
  induction l with
  | nil => intro x hx; cases hx
  | cons y l ih =>
    rw [plains] at h
    split at h
    · rename_i e
      intro x hx
      rcases List.mem_cons.1 hx with rfl | hx
      · exact e
      · exact ih h x hx
    · cases h
theorem plainV_ok {o : Oper} {v : Value} (h : plainV P T o = some v) {l : List Operand} (hl : opsOf o.op = some l) (hok : OK ν T a l) : ∃ v', VRi ν v v' ∧ ∀ w, (execOp a.eval o).run P w = .ok (.value v') w := by
  unfold plainV at h
  rw [hl] at h
  simp only at h
  split at h
  case h_2 => cases h
  rename_i hp
  split at h
  case h_2 => cases h
  rename_i u hr
  split at h
  case h_2 => cases h
  rename_i hv
  cases h
  obtain ⟨k1, k2⟩ := opsOf_all hl
  have e : execOp a.eval o = execOp (Go.Proofs.YtlefngomddjahaaGreatDoor.ael T) o := execOp_congr o k2 fun x hx => (hok x (k1 x hx)).plain_eq (plains_mem hp x (k1 x hx))
  exact ⟨v, .plain_refl _ hv, fun w => by rw [e]; exact prun_ok _ hr w⟩
/-! ### the single operations -/
theorem cmpI_run {w : World} {ρ : Operand → Value} {o : Oper} {op : BinOp} {t ty : TypeId} {x y : Operand} {k : IntKind} {m n : Int} {r : Bool} (ho : o.op = .binOp op t x y ty) (hx : ρ x = .int k m) (hy : ρ y = .int k n) (h : cmpI op m n = some r) : (execOp ρ o).run P w = .ok (.value (.bool r)) w := by
  unfold cmpI at h
  split at h <;> first | (cases h; done) | skip
  all_goals
    cases h
    simp [execOp, ho, hx, hy, eqGuard, Go.binOp, Op.intCmp, pure, bind, Sem.bind, Sem.run]
theorem oneC_run {t : TypeId} (h : oneC P t = true) (w : World) : (isAgg t).run P w = .ok false w := by
  unfold oneC at h
  split at h
  · cases h
  · cases h
  · rename_i d h1 h2 hu
    unfold isAgg
    rw [Sem.run_bind, und_run hu]
    simp only [Result.andThen_ok]
    cases d <;> first | rfl | exact (h1 _ hu).elim | exact (h2 _ _ hu).elim
  · cases h
theorem aggC_run {t : TypeId} {k : Nat} (h : aggC P t = some k) : (∀ w, (isAgg t).run P w = .ok true w) ∧ (∀ w, (sizeOf t).run P w = .ok k w) ∧ sizeT P t = some k := by
  unfold aggC at h
  split at h
  case h_3 => cases h
  all_goals
    rename_i hu
    rw [Option.map_eq_some_iff] at h
    obtain ⟨i, hi, rfl⟩ := h
    refine ⟨fun w => ?_, fun w => ?_, by unfold sizeT; rw [hi]; rfl⟩
    · unfold isAgg
      rw [Sem.run_bind, und_run hu]
      rfl
    · unfold sizeOf
      rw [Sem.run_bind, info_run hi]
      rfl
theorem sizeT_run {t : TypeId} {k : Nat} (h : sizeT P t = some k) (w : World) : (sizeOf t).run P w = .ok k w := by
  unfold sizeT at h
  rw [Option.map_eq_some_iff] at h
  obtain ⟨i, hi, rfl⟩ := h
  unfold sizeOf
  rw [Sem.run_bind, info_run hi]
  rfl
theorem partA_run {t : TypeId} {cs : Array Value} {off : Nat} {v : Value} (h : partA P t cs.toList off = some v) (w : World) : (part t cs off).run P w = .ok v w := by
  unfold partA at h
  split at h
  · rename_i h1
    rw [listGet_eq] at h
    unfold part
    rw [Sem.run_bind, oneC_run h1]
    have h2 : cs[off]? = some v := by simpa using h
    simp [h2]
  · split at h
    · rename_i k hk
      cases h
      obtain ⟨h1, h2, h3⟩ := aggC_run hk
      unfold part
      rw [Sem.run_bind, h1]
      simp only [Result.andThen_ok, if_true, Sem.run_bind, h2]
      rw [dropL_eq, takeL_eq]
      have : cs.extract off (off + k) = ⟨(cs.toList.drop off).take k⟩ := by
        apply Array.ext'
        simp
      rw [this]; rfl
    · cases h
theorem partA_rel {t : TypeId} {l l' : List Value} {off : Nat} {v : Value} (hl : LR ν l l') (h : partA P t l off = some v) : ∃ v', partA P t l' off = some v' ∧ VRi ν v v' := by
  unfold partA at h ⊢
  split at h
  · rename_i h1
    rw [listGet_eq] at h
    obtain ⟨v', e, r⟩ := hl.get h
    exact ⟨v', by simpa [listGet_eq] using e, r⟩
  · rename_i h1
    split at h
    · rename_i k hk
      cases h
      refine ⟨.agg ⟨takeL (dropL l' off) k⟩, rfl, ?_⟩
      simp only [takeL_eq, dropL_eq]
      exact .agg_of ((hl.drop _).take _)
    · cases h
theorem partsA_rel {ps : List (Nat × Operand)} (h : OK ν T a (ps.map (·.2))) : PR ν (partsA T ps) (ps.map fun p => (p.1, a.eval p.2)) := by
  induction ps with
  | nil => exact .nil
  | cons p ps ih => exact .cons _ (h _ (by simp)) (ih fun x hx => h x (List.mem_cons_of_mem _ hx))
theorem mapE_rel {l : List Operand} (h : OK ν T a l) : LR ν (mapE T l) (l.map a.eval) := by
  induction l with
  | nil => exact .nil
  | cons x l ih => exact .cons (h _ List.mem_cons_self) (ih fun y hy => h y (List.mem_cons_of_mem _ hy))
theorem zeroT_run {t : TypeId} {z : List Value} (h : zeroT P t = some z) : ∃ zv, (∀ w, (zeroValue t).run P w = .ok zv w) ∧ zv.cells = ⟨z⟩ ∧ LR ν z z ∧ (∃ i, P.info? t = some i ∧ i.zero = some zv) := by
  unfold zeroT at h
  split at h
  case h_2 => cases h
  rename_i i hi
  split at h
  case h_2 => cases h
  rename_i zv hz
  split at h
  case h_2 => cases h
  rename_i hp
  cases h
  refine ⟨zv, fun w => ?_, by rw [cellsL_eq], cellsL_rel (.plain_refl _ hp), i, hi, hz⟩
  unfold zeroValue
  rw [Sem.run_bind, info_run hi]
  simp only [Result.andThen_ok, hz]
  rfl
theorem fldPlaces_run : ∀ {fs : List Field} {l : List (Nat × Nat)}, fldPlaces P fs = some l → ∀ w, ((fs.mapM fun f => (do pure (f.offset, ← sizeOf f.type) : Sem (Nat × Nat)))).run P w = .ok l w
  | [], l, h, w => by rw [fldPlaces] at h; cases h; rfl
  | f :: fs, l, h, w => by
    rw [fldPlaces] at h
    split at h
    · rename_i k l0 h1 h2
      cases h
      haveI := sem_lawful
      rw [List.mapM_cons, Sem.run_bind, Sem.run_bind, sizeT_run h1]
      have := fldPlaces_run h2 w
      simp only [run_pu, Result.andThen_ok]
      rw [Sem.run_bind, this]
      rfl
    · cases h
theorem nthP_eq (l : List (Nat × Nat)) (i : Nat) : nthP l i = l[i]? := by
  induction l generalizing i with
  | nil => rfl
  | cons v l ih => cases i with
    | zero => rfl
    | succ i => simpa [nthP] using ih i
theorem buildA_ok {t : TypeId} {ps ps' : List (Nat × Value)} {v : Value} (h : buildA P t ps = some v) (hr : PR ν ps ps') : ∃ v', VRi ν v v' ∧ ∀ w, (Instr.build t ⟨ps'⟩).run P w = .ok v' w := by
  unfold buildA at h
  split at h
  case h_2 => cases h
  rename_i z hz
  obtain ⟨zv, h1, h2, h3, -⟩ := zeroT_run (ν := ν) hz
  split at h
  · rename_i fs hu
    split at h
    case h_2 => cases h
    rename_i pls hs
    split at h
    case h_2 => cases h
    rename_i l hf
    cases h
    obtain ⟨l', e1, e2⟩ := fillA_rel hr h3 hf
    refine ⟨.agg ⟨l'⟩, .agg_of e2, fun w => ?_⟩
    have h4 := fldPlaces_run hs w
    haveI := sem_lawful
    unfold Instr.build
    rw [Sem.run_bind, h1]
    simp only [Result.andThen_ok]
    rw [Sem.run_bind, und_run hu]
    simp only [Result.andThen_ok]
    rw [Sem.run_bind, Array.mapM_eq_mapM_toList]
    have h5 : ((List.toArray <$> (fs.toList.mapM fun f => (do pure (f.offset, ← sizeOf f.type) : Sem (Nat × Nat)))) : Sem (Array (Nat × Nat))).run P w = .ok ⟨pls⟩ w := by
      rw [← bind_pure_comp, Sem.run_bind, h4]
      rfl
    rw [h5]
    simp only [Result.andThen_ok]
    have h6 := fillA_fill e1
    have h7 : (fun i => (⟨pls⟩ : Array (Nat × Nat))[i]?) = nthP pls := by funext i; rw [nthP_eq]; simp
    rw [h2, h7, h6]
    rfl
  · rename_i n el hu
    split at h
    case h_2 => cases h
    rename_i k hk
    split at h
    case h_2 => cases h
    rename_i l hf
    cases h
    obtain ⟨l', e1, e2⟩ := fillA_rel hr h3 hf
    refine ⟨.agg ⟨l'⟩, .agg_of e2, fun w => ?_⟩
    unfold Instr.build
    rw [Sem.run_bind, h1]
    simp only [Result.andThen_ok]
    rw [Sem.run_bind, und_run hu]
    simp only [Result.andThen_ok]
    rw [Sem.run_bind, sizeT_run hk]
    simp only [Result.andThen_ok]
    have h6 := fillA_fill e1
    rw [h2, h6]
    rfl
  · cases h
theorem fieldA_run {w : World} {ρ : Operand → Value} {o : Oper} {t ft : TypeId} {j k : Nat} {x : Operand} {ad : Addr} (ho : o.op = .fieldAddr t x j) (hx : ρ x = .pointer (some ad)) (hf : fldO P t j = some (k, ft)) : (execOp ρ o).run P w = .ok (.value (.pointer (some (ad.add k)))) w := by
  unfold fldO at hf
  split at hf
  case h_2 => cases hf
  rename_i fs hu
  split at hf
  case h_2 => cases hf
  rename_i f hj
  split at hf
  case h_2 => cases hf
  rename_i inf hi
  split at hf
  · cases hf
  rename_i m hm
  cases hf
  have h1 := fun W => und_run hu W
  have h2 := fun W => info_run hi W
  simp [execOp, ho, Instr.fieldAt, Instr.sureAddr, hx, Sem.run_bind, h1, hj, fieldPlace, sizeOf, h2, hm]
theorem fieldV_run {w : World} {ρ : Operand → Value} {o : Oper} {t ft : TypeId} {j k : Nat} {x : Operand} {cs : Array Value} {v : Value} (ho : o.op = .field t x j) (hx : ρ x = .agg cs) (hf : fldO P t j = some (k, ft)) (hp : partA P ft cs.toList k = some v) : (execOp ρ o).run P w = .ok (.value v) w := by
  unfold fldO at hf
  split at hf
  case h_2 => cases hf
  rename_i fs hu
  split at hf
  case h_2 => cases hf
  rename_i f hj
  split at hf
  case h_2 => cases hf
  rename_i inf hi
  split at hf
  · cases hf
  rename_i m hm
  cases hf
  have h1 := fun W => und_run hu W
  have h2 := partA_run hp
  simp [execOp, ho, Instr.field, asAgg, hx, Sem.run_bind, h1, hj, h2]
theorem addA_eq (h o k : Nat) : addA ⟨h, o, none⟩ k = ⟨h, o + k, none⟩ := by cases k <;> rfl
theorem add_eq (h o k : Nat) : (⟨h, o, none⟩ : Addr).add k = ⟨h, o + k, none⟩ := by
  unfold Addr.add
  split
  · rename_i e; subst e; rfl
  · rfl
theorem asN_eq {v v' : Value} {n : Nat} (h : asN v = some n) (hr : VRi ν v v') : ∃ k, v' = .int k (n : Int) := by
  unfold asN at h
  split at h
  · rename_i k m
    cases h
    cases hr
    exact ⟨k, rfl⟩
  · cases h
end fr
end Go.Proofs.YtlefngomddjahaaGreatDoor
