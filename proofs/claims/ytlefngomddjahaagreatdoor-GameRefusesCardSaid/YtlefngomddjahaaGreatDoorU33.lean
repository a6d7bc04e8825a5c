/- The interpreter for closed calls: values of handles and values of the machine. -/
import Derived.Test.YtlefngomddjahaaGreatDoorU32
namespace Go.Proofs.YtlefngomddjahaaGreatDoor
set_option linter.unusedSimpArgs false
set_option linter.unusedVariables false
open Go.RowKit
/-! ### trees -/
section tr
variable {α : Type} {d x : α}
theorem getP_nil_lf : Tr.getP d [] .lf = d := rfl
theorem getP_nil_nd {v : α} {l r : Tr α} : Tr.getP d [] (.nd v l r) = v := rfl
theorem getP_cons_lf {b : Bool} {p : List Bool} : Tr.getP d (b :: p) .lf = d := rfl
theorem getP_cons_nd {b : Bool} {p : List Bool} {v : α} {l r : Tr α} : Tr.getP d (b :: p) (.nd v l r) = Tr.getP d p (match b with | true => r | false => l) := by cases b <;> rfl
theorem getP_lf (p : List Bool) : Tr.getP d p .lf = d := by cases p <;> rfl
theorem setP_nil_lf : Tr.setP d x [] .lf = .nd x .lf .lf := rfl
theorem setP_nil_nd {v : α} {l r : Tr α} : Tr.setP d x [] (.nd v l r) = .nd x l r := rfl
theorem setP_cons_lf {b : Bool} {p : List Bool} : Tr.setP d x (b :: p) .lf = (match b with | true => .nd d .lf (Tr.setP d x p .lf) | false => .nd d (Tr.setP d x p .lf) .lf) := by cases b <;> rfl
theorem setP_cons_nd {b : Bool} {p : List Bool} {v : α} {l r : Tr α} : Tr.setP d x (b :: p) (.nd v l r) = (match b with | true => .nd v l (Tr.setP d x p r) | false => .nd v (Tr.setP d x p l) r) := by cases b <;> rfl
theorem getP_set (p : List Bool) : ∀ t : Tr α, Tr.getP d p (Tr.setP d x p t) = x := by
  induction p with
  | nil => intro t; cases t <;> rfl
  | cons b p ih =>
    intro t
    cases t with
    | lf => rw [setP_cons_lf]; cases b <;> simp only [getP_cons_nd] <;> exact ih _
    | nd v l r => rw [setP_cons_nd]; cases b <;> simp only [getP_cons_nd] <;> exact ih _
theorem getP_set_ne : ∀ (p q : List Bool) (t : Tr α), p ≠ q → Tr.getP d q (Tr.setP d x p t) = Tr.getP d q t := by
  intro p
  induction p with
  | nil =>
    intro q t h
    cases q with
    | nil => exact absurd rfl h
    | cons c q => cases t <;> cases c <;> simp [setP_nil_lf, setP_nil_nd, getP_cons_nd, getP_cons_lf, getP_lf]
  | cons b p ih =>
    intro q t h
    cases q with
    | nil => cases t <;> cases b <;> simp [setP_cons_lf, setP_cons_nd, getP_nil_nd, getP_nil_lf]
    | cons c q =>
      cases t with
      | lf =>
        rw [setP_cons_lf, getP_cons_lf]
        cases b <;> cases c <;> simp only [getP_cons_nd, getP_lf] <;> (rw [ih _ _ (fun e => h (by rw [e]))]; exact getP_lf _)
      | nd v l r =>
        rw [setP_cons_nd, getP_cons_nd]
        cases b <;> cases c <;> simp only [getP_cons_nd] <;> exact ih _ _ (fun e => h (by rw [e]))
theorem pthF_succ (k i : Nat) : pthF (k + 1) (i + 1) = (Nat.beq (i % 2) 1 :: pthF k (i / 2)) := rfl
def vlP : List Bool → Nat
  | [] => 0
  | b :: p => 2 * vlP p + (match b with | true => 1 | false => 0) + 1
theorem vl_pthF : ∀ k i, i ≤ k → vlP (pthF k i) = i := by
  intro k
  induction k with
  | zero => intro i h; obtain rfl : i = 0 := by omega
            rfl
  | succ k ih =>
    intro i h
    cases i with
    | zero => rfl
    | succ i =>
      rw [pthF_succ]
      show 2 * vlP (pthF k (i / 2)) + (match Nat.beq (i % 2) 1 with | true => 1 | false => 0) + 1 = i + 1
      rw [ih _ (by omega)]
      rcases Nat.mod_two_eq_zero_or_one i with e | e <;> rw [e] <;> simp <;> omega
theorem pth_inj {i j : Nat} (h : pth i = pth j) : i = j := by
  have h1 := vl_pthF i i (Nat.le_refl _)
  have h2 := vl_pthF j j (Nat.le_refl _)
  unfold pth at h
  rw [h] at h1
  exact h1.symm.trans h2
theorem get_set (t : Tr α) (i : Nat) : Tr.get d (Tr.set d x t i) i = x := getP_set _ _
theorem get_set_ne (t : Tr α) {i j : Nat} (h : i ≠ j) : Tr.get d (Tr.set d x t i) j = Tr.get d t j := getP_set_ne _ _ _ fun e => h (pth_inj e)
theorem get_lf (i : Nat) : Tr.get d (.lf : Tr α) i = d := getP_lf _
theorem get_set_eq (t : Tr α) (i j : Nat) : Tr.get d (Tr.set d x t i) j = if i = j then x else Tr.get d t j := by
  split
  · rename_i e; subst e; exact get_set _ _
  · rename_i e; exact get_set_ne _ e
theorem ofL_cons (y : α) (l : List α) (i : Nat) (t : Tr α) : Tr.ofL d (y :: l) i t = Tr.ofL d l (i + 1) (Tr.set d y t i) := by
  rw [Tr.ofL]
  split <;> rename_i h <;> rw [h]
theorem ofL_get : ∀ (l : List α) (i : Nat) (t : Tr α) (j : Nat), Tr.get d (Tr.ofL d l i t) j = if i ≤ j then (if h : j - i < l.length then l[j - i] else Tr.get d t j) else Tr.get d t j
  | [], i, t, j => by simp [Tr.ofL]
  | y :: l, i, t, j => by
    rw [ofL_cons, ofL_get l, get_set_eq]
    by_cases h1 : i = j
    · subst h1
      simp
      intro h; omega
    · by_cases h2 : i ≤ j
      · have h3 : i + 1 ≤ j := by omega
        have h4 : j - i = (j - (i + 1)) + 1 := by omega
        simp only [h1, h2, h3, if_true, if_false, h4, List.length_cons, Nat.add_lt_add_iff_right, List.getElem_cons_succ]
      · have h3 : ¬ i + 1 ≤ j := by omega
        simp [h1, h2, h3]
end tr

/-! ### values -/
abbrev Nu := Nat → Option (Nat × Nat)
def Nu.Le (ν ν' : Nu) : Prop := ∀ h x, ν h = some x → ν' h = some x
theorem Nu.Le.refl (ν : Nu) : ν.Le ν := fun _ _ h => h
theorem Nu.Le.trans {a b c : Nu} (h : a.Le b) (h' : b.Le c) : a.Le c := fun _ _ e => h' _ _ (h _ _ e)
def Nu.upd (ν : Nu) (h r K : Nat) : Nu := fun k => if k = h then some (r, K) else ν k
theorem Nu.upd_self {ν : Nu} {h r K : Nat} : ν.upd h r K h = some (r, K) := if_pos rfl
theorem Nu.upd_ne {ν : Nu} {h r K k : Nat} (e : k ≠ h) : ν.upd h r K k = ν k := if_neg e
theorem Nu.le_upd {ν : Nu} {h r K : Nat} (e : ν h = none) : ν.Le (ν.upd h r K) := fun k x hx => by
  rw [Nu.upd_ne]; exact hx
  intro e'; subst e'; rw [e] at hx; cases hx
def atomV : Value → Bool
  | .bool _ => true
  | .int _ _ => true
  | .float _ _ => true
  | .complex _ _ _ => true
  | .string _ => true
  | .pointer none => true
  | .slice none _ _ => true
  | .map none => true
  | .nilFunc => true
  | .nilIface => true
  | _ => false
inductive FnR (ν : Nu) : Fn → Fn → Prop
  | func (f : FuncId) : FnR ν (.func f) (.func f)
  | yield {l b K : Nat} : ν l = some (b, K) → FnR ν (.yield l) (.yield b)
def capR (K c c' : Nat) : Prop := (c < unk → c' = c) ∧ (unk ≤ c → c' + (c - unk) = K)
inductive VRi (ν : Nu) : Value → Value → Prop
  | atom (v : Value) : atomV v = true → VRi ν v v
  | ptr {h b K : Nat} (o : Nat) : ν h = some (b, K) → VRi ν (.pointer (some ⟨h, o, none⟩)) (.pointer (some ⟨b, o, none⟩))
  | slice {h b K c c' : Nat} (o n : Nat) : ν h = some (b, K) → capR K c c' → VRi ν (.slice (some ⟨h, o, none⟩) n c) (.slice (some ⟨b, o, none⟩) n c')
  | map {h b K : Nat} : ν h = some (b, K) → VRi ν (.map (some h)) (.map (some b))
  | func {fn fn' : Fn} {f f' c c' : Array Value} : FnR ν fn fn' → f.size = f'.size → (∀ (i : Nat) (v v' : Value), f[i]? = some v → f'[i]? = some v' → VRi ν v v') → c.size = c'.size → (∀ (i : Nat) (v v' : Value), c[i]? = some v → c'[i]? = some v' → VRi ν v v') → VRi ν (.func fn f c) (.func fn' f' c')
  | iface {v v' : Value} (t : TypeId) : VRi ν v v' → VRi ν (.iface t v) (.iface t v')
  | agg {c c' : Array Value} : c.size = c'.size → (∀ (i : Nat) (v v' : Value), c[i]? = some v → c'[i]? = some v' → VRi ν v v') → VRi ν (.agg c) (.agg c')
  | tuple {c c' : Array Value} : c.size = c'.size → (∀ (i : Nat) (v v' : Value), c[i]? = some v → c'[i]? = some v' → VRi ν v v') → VRi ν (.tuple c) (.tuple c')
inductive LR (ν : Nu) : List Value → List Value → Prop
  | nil : LR ν [] []
  | cons {v v' : Value} {l l' : List Value} : VRi ν v v' → LR ν l l' → LR ν (v :: l) (v' :: l')
section vr
variable {ν ν' : Nu}
theorem FnR.mono {f f' : Fn} (h : FnR ν f f') (hl : ν.Le ν') : FnR ν' f f' := by
  cases h with
  | func f => exact .func f
  | yield h => exact .yield (hl _ _ h)
theorem VRi.mono {v v' : Value} (h : VRi ν v v') (hl : ν.Le ν') : VRi ν' v v' := by
  induction h with
  | atom v h => exact .atom v h
  | ptr o h => exact .ptr o (hl _ _ h)
  | slice o n h c => exact .slice o n (hl _ _ h) c
  | map h => exact .map (hl _ _ h)
  | func hf e1 _ e2 _ ih1 ih2 => exact .func (hf.mono hl) e1 ih1 e2 ih2
  | iface t _ ih => exact .iface t ih
  | agg e _ ih => exact .agg e ih
  | tuple e _ ih => exact .tuple e ih
theorem LR.mono {l l' : List Value} (h : LR ν l l') (hl : ν.Le ν') : LR ν' l l' := by
  induction h with
  | nil => exact .nil
  | cons h _ ih => exact .cons (h.mono hl) ih
theorem LR.length {l l' : List Value} (h : LR ν l l') : l'.length = l.length := by
  induction h with
  | nil => rfl
  | cons _ _ ih => simp [ih]
theorem LR.get {l l' : List Value} (h : LR ν l l') {i : Nat} {v : Value} (hv : l[i]? = some v) : ∃ v', l'[i]? = some v' ∧ VRi ν v v' := by
  induction h generalizing i with
  | nil => simp at hv
  | cons hd _ ih =>
    cases i with
    | zero => simp at hv; subst hv; exact ⟨_, rfl, hd⟩
    | succ i => simp at hv; simpa using ih hv
theorem LR.of_get {l l' : List Value} (e : l.length = l'.length) (h : ∀ (i : Nat) (v v' : Value), l[i]? = some v → l'[i]? = some v' → VRi ν v v') : LR ν l l' := by
  induction l generalizing l' with
  | nil => cases l' with
    | nil => exact .nil
    | cons _ _ => simp at e
  | cons v l ih => cases l' with
    | nil => simp at e
    | cons v' l' => exact .cons (h 0 v v' rfl rfl) (ih (by simpa using e) fun i u u' hu hu' => h (i + 1) u u' (by simpa using hu) (by simpa using hu'))
theorem LR.of_arr {c c' : Array Value} (e : c.size = c'.size) (h : ∀ (i : Nat) (v v' : Value), c[i]? = some v → c'[i]? = some v' → VRi ν v v') : LR ν c.toList c'.toList :=
  .of_get (by simpa using e) fun i v v' h1 h2 => h i v v' (by simpa using h1) (by simpa using h2)
theorem LR.arr {l l' : List Value} (h : LR ν l l') : (⟨l⟩ : Array Value).size = (⟨l'⟩ : Array Value).size ∧ (∀ (i : Nat) (v v' : Value), (⟨l⟩ : Array Value)[i]? = some v → (⟨l'⟩ : Array Value)[i]? = some v' → VRi ν v v') := by
  refine ⟨by simp [h.length], fun i v v' h1 h2 => ?_⟩
  obtain ⟨u, hu, hr⟩ := h.get (i := i) (v := v) (by simpa using h1)
  have : u = v' := by
    have h2' : l'[i]? = some v' := by simpa using h2
    rw [hu] at h2'; simpa using h2'
  subst this; exact hr
theorem VRi.agg_of {l l' : List Value} (h : LR ν l l') : VRi ν (.agg ⟨l⟩) (.agg ⟨l'⟩) := .agg h.arr.1 h.arr.2
theorem VRi.tuple_of {l l' : List Value} (h : LR ν l l') : VRi ν (.tuple ⟨l⟩) (.tuple ⟨l'⟩) := .tuple h.arr.1 h.arr.2
theorem VRi.func_of {fn fn' : Fn} {l l' c c' : List Value} (hf : FnR ν fn fn') (h : LR ν l l') (k : LR ν c c') : VRi ν (.func fn ⟨l⟩ ⟨c⟩) (.func fn' ⟨l'⟩ ⟨c'⟩) := .func hf h.arr.1 h.arr.2 k.arr.1 k.arr.2
theorem VRi.undef : VRi ν undef undef := .tuple rfl (by simp)
theorem LR.append {a a' b b' : List Value} (h : LR ν a a') (k : LR ν b b') : LR ν (a ++ b) (a' ++ b') := by
  induction h with
  | nil => exact k
  | cons h _ ih => exact .cons h ih
/-- what holds no address reads the same -/
theorem VRi.plain_refl : ∀ (v : Value), pl v = true → VRi ν v v := by
  intro v
  refine Value.rec (motive_1 := fun v => pl v = true → VRi ν v v) (motive_2 := fun a => plA a = true → LR ν a.toList a.toList) (motive_3 := fun l => plL l = true → LR ν l l)
    ?_ ?_ ?_ ?_ ?_ ?_ ?_ ?_ ?_ ?_ ?_ ?_ ?_ ?_ ?_ ?_ ?_ ?_ v
  case _ => exact fun b _ => .atom _ rfl
  case _ => exact fun b _ _ => .atom _ rfl
  case _ => exact fun b _ _ => .atom _ rfl
  case _ => exact fun b _ _ _ => .atom _ rfl
  case _ => exact fun b _ => .atom _ rfl
  case _ => intro a h; cases a with
    | none => exact .atom _ rfl
    | some a => simp [pl] at h
  case _ => intro a n c h; cases a with
    | none => exact .atom _ rfl
    | some a => simp [pl] at h
  case _ => intro a h; cases a with
    | none => exact .atom _ rfl
    | some a => simp [pl] at h
  case _ => intro a h; simp [pl] at h
  case _ =>
    intro fn f c ih1 ih2 h
    cases fn with
    | func g =>
      rw [pl] at h
      split at h
      · rename_i e
        have := VRi.func_of (FnR.func (ν := ν) g) (ih1 e) (ih2 h)
        exact this
      · cases h
    | _ => simp [pl] at h
  case _ => exact fun _ => .atom _ rfl
  case _ => intro t v ih h; exact .iface t (ih (by simpa [pl] using h))
  case _ => exact fun _ => .atom _ rfl
  case _ => intro c ih h; exact .agg_of (ih (by simpa [pl] using h))
  case _ => intro c ih h; exact .tuple_of (ih (by simpa [pl] using h))
  case _ => intro l ih h; exact ih (by simpa [plA] using h)
  case _ => exact fun _ => .nil
  case _ =>
    intro v l ih1 ih2 h
    rw [plL] at h
    split at h
    · rename_i e; exact .cons (ih1 e) (ih2 h)
    · cases h
theorem VRi.plain_eq {v v' : Value} (h : VRi ν v v') (hp : pl v = true) : v' = v := by
  have key : ∀ (l l' : List Value), LR ν l l' → (∀ v ∈ l, ∀ v', VRi ν v v' → pl v = true → v' = v) → plL l = true → l' = l := by
    intro l l' hl
    induction hl with
    | nil => intros; rfl
    | cons hd _ ih =>
      intro hv hpl
      rw [plL] at hpl
      split at hpl
      · rename_i e
        rw [hv _ List.mem_cons_self _ hd e, ih (fun v hm => hv v (List.mem_cons_of_mem _ hm)) hpl]
      · cases hpl
  have arr : ∀ (c c' : Array Value), c.size = c'.size → (∀ (i : Nat) (v v' : Value), c[i]? = some v → c'[i]? = some v' → VRi ν v v') → (∀ (i : Nat) (v v' : Value), c[i]? = some v → c'[i]? = some v' → pl v = true → v' = v) → plA c = true → c' = c := by
    intro c c' e h1 h2 hp
    obtain ⟨l⟩ := c
    obtain ⟨l'⟩ := c'
    have hl := LR.of_arr e h1
    rw [plA] at hp
    have hall : ∀ v ∈ l, pl v = true := by
      clear h1 h2 e hl
      induction l with
      | nil => intro v hv; cases hv
      | cons u l ih =>
        rw [plL] at hp
        split at hp
        · rename_i eu
          intro v hv
          rcases List.mem_cons.1 hv with rfl | hv
          · exact eu
          · exact ih hp v hv
        · cases hp
    congr 1
    apply List.ext_getElem?
    intro i
    cases hi : l[i]? with
    | none =>
      have e' : l.length = l'.length := by simpa using e
      rw [List.getElem?_eq_none_iff] at hi ⊢
      omega
    | some v =>
      obtain ⟨v', h3, h4⟩ := hl.get hi
      simp only at h3
      rw [h3, h2 i v v' (by simpa using hi) (by simpa using h3) (hall v (List.mem_of_getElem? hi))]
  induction h with
  | atom v h => rfl
  | ptr o h => simp [pl] at hp
  | slice o n h c => simp [pl] at hp
  | map h => simp [pl] at hp
  | func hf e1 h1 e2 h2 ih1 ih2 =>
    cases hf with
    | func g =>
      rw [pl] at hp
      split at hp
      · rename_i e
        rw [arr _ _ e1 h1 ih1 e, arr _ _ e2 h2 ih2 hp]
      · cases hp
    | yield _ => simp [pl] at hp
  | iface t _ ih => rw [ih (by simpa [pl] using hp)]
  | agg e h1 ih => rw [arr _ _ e h1 ih (by simpa [pl] using hp)]
  | tuple e h1 ih => rw [arr _ _ e h1 ih (by simpa [pl] using hp)]
theorem LR.plain {l l' : List Value} (h : LR ν l l') (hp : plL l = true) : l' = l := by
  induction h with
  | nil => rfl
  | cons hd _ ih =>
    rw [plL] at hp
    split at hp
    · rename_i e; rw [hd.plain_eq e, ih hp]
    · cases hp
end vr
end Go.Proofs.YtlefngomddjahaaGreatDoor
