/- Regions that draw their order: one walk, the plain operations as soon as they may come up, the others in the one order that their edges allow. -/
import Derived.OrdersHeld
import Derived.Test.YtllcankinjomaaaBase
import Derived.Deep.QuietTactic
import Derived.BigQuiet
import Derived.Deep.RegionHeld3
namespace Go.Proofs.Ytllcankinjomaaa
set_option linter.unusedSimpArgs false
set_option linter.unusedVariables false
open Go.RowKit

theorem getD_both {listed : Array Bool} {i : Nat} (h : listed.getD i true = false) : listed.getD i false = false := by
  rcases Nat.lt_or_ge i listed.size with h' | h'
  · simp [h'] at h ⊢; exact h
  · simp [Array.getElem?_eq_none h'] at h
theorem getD_replicate_false (m j : Nat) : (Array.replicate m false).getD j false = false := by
  rcases Nat.lt_or_ge j m with h | h
  · simp [h]
  · simp [h]
/-- operations that hand back a value and turn nothing -/
def plainOp : Op → Bool
  | .move _ | .nilCheck _ | .assign _ | .pick _ _ _ | .load _ _ | .binOp _ _ _ _ _ | .unOp _ _ _ | .convert _ _ _ | .makeInterface _ _ | .makeFunc _ _ _ | .slice _ _ _ _ _ | .fieldAddr _ _ _ | .field _ _ _
  | .indexAddr _ _ _ | .index _ _ _ | .lookup _ _ _ _ | .typeAssert _ _ _ _ | .extract _ _ | .build _ _ => true
  | .call c => match c.callee with | .builtin .len | .builtin .cap | .builtin .min | .builtin .max => true | _ => false
  | _ => false

theorem run_value {P : Program} {w w' : World} {s : Sem Value} {n : Next} (h : (do pure (Next.value (← s)) : Sem Next).run P w = .ok n w') : ∃ u, n = .value u := by
  simp only [Sem.run_bind] at h
  cases hs : s.run P w with
  | ok u w1 => rw [hs] at h; simp at h; exact ⟨u, h.1.symm⟩
  | halt x w1 => rw [hs] at h; simp [Result.andThen] at h

theorem plain_value {P : Program} {o : Oper} {ρ : Operand → Value} {w w' : World} {n : Next} (hp : plainOp o.op = true) (h : (execOp ρ o).run P w = .ok n w') : ∃ u, n = .value u := by
  unfold execOp at h
  cases hop : o.op <;> rw [hop] at h hp <;> simp only [plainOp] at hp <;> try (cases hp; done)
  case move x => simp at h; exact ⟨_, h.1.symm⟩
  case assign x => simp at h; exact ⟨_, h.1.symm⟩
  case nilCheck x =>
    dsimp only at h
    generalize ρ x = y at h
    cases y with
    | func f first captured =>
      cases f with
      | method name =>
        dsimp only at h
        split at h
        · simp [go_sem] at h
        · simp only [Sem.run_bind] at h
          cases h1 : (program).run P w with
          | ok u w1 =>
            rw [h1] at h
            simp only [Result.andThen_ok] at h
            generalize (nilAhead (u.types.size + Made.depth) _ _ name) = s at h
            cases h2 : s.run P w1 with
            | ok b w2 =>
              rw [h2] at h
              simp only [Result.andThen_ok] at h
              split at h
              · simp [go_sem] at h
              · simp at h; exact ⟨_, h.1.symm⟩
            | halt y w2 => rw [h2] at h; simp [Result.andThen] at h
          | halt y w1 => rw [h1] at h; simp [Result.andThen] at h
        · simp at h; exact ⟨_, h.1.symm⟩
      | _ => simp at h; exact ⟨_, h.1.symm⟩
    | pointer q =>
      cases q with
      | none => simp [go_sem] at h
      | some q => simp at h; exact ⟨_, h.1.symm⟩
    | nilIface => simp [go_sem] at h
    | nilFunc => simp [go_sem] at h
    | _ => simp at h; exact ⟨_, h.1.symm⟩
  case pick c a b =>
    simp only [Sem.run_bind] at h
    cases hs : (asBool (ρ c)).run P w with
    | ok u w1 => rw [hs] at h; simp at h; exact ⟨_, h.1.symm⟩
    | halt x w1 => rw [hs] at h; simp [Result.andThen] at h
  case call c =>
    obtain ⟨callee, args, ats⟩ := c
    cases callee with
    | value f => cases hp
    | invoke r n => cases hp
    | builtin b =>
      cases b <;> (try (cases hp; done)) <;> simp only [resolve, Sem.run_bind, Sem.run_pure, Result.andThen_ok, invoke, builtin] at h <;> exact run_value (by simpa only [Sem.run_bind, Sem.run_pure] using h)
  all_goals exact run_value h

section
variable {P : Program} {ops : Array Oper} {Q : Exit → Act → World → Prop} {S : World → Prop}

/-- m comes behind i, by at most f edges -/
def after (ops : Array Oper) (i : Nat) : Nat → Nat → Bool
  | 0, _ => false
  | f + 1, m => match ops[m]? with
    | some o => o.after.any fun e => Region.binds .any e && (e.on == i || after ops i f e.on)
    | none => false

def Closed (ops : Array Oper) (listed : Array Bool) : Prop :=
  ∀ j oj, ops[j]? = some oj → listed.getD j false = true → ∀ e ∈ oj.after, Region.binds .any e = true → listed.getD e.on false = true

theorem Closed.set {listed : Array Bool} {j : Nat} (h : Closed ops listed) (hj : j ∈ Region.ready .any ops listed) : Closed ops (listed.setIfInBounds j true) := by
  obtain ⟨_, oj, hoj, hall⟩ := mem_ready.1 hj
  intro k ok hk hl e he hb
  by_cases hjk : j = k
  · subst hjk
    obtain rfl : ok = oj := Option.some.inj (hk.symm.trans hoj)
    exact getD_set_true (hall e he hb)
  · rw [getD_set_ne false hjk] at hl
    exact getD_set_true (h k ok hk hl e he hb)

theorem Closed.after {listed : Array Bool} (h : Closed ops listed) {i : Nat} (hi : listed.getD i false = false) : ∀ (f m : Nat), after ops i f m = true → listed.getD m false = false
  | 0, m, ha => by simp [Ytllcankinjomaaa.after] at ha
  | f + 1, m, ha => by
    rw [Ytllcankinjomaaa.after] at ha
    cases hm : ops[m]? with
    | none => rw [hm] at ha; cases ha
    | some o =>
      rw [hm] at ha
      obtain ⟨e, he, hb⟩ := Array.any_eq_true'.1 ha
      simp only [Bool.and_eq_true, Bool.or_eq_true, beq_iff_eq] at hb
      cases hl : listed.getD m false with
      | false => rfl
      | true =>
        have h1 := h m o hm hl e he hb.1
        rcases hb.2 with h2 | h2
        · rw [h2, hi] at h1; cases h1
        · rw [h.after hi f e.on h2] at h1; cases h1

/-- none of the hard ones has come up -/
def NoneOf (hards : List Nat) (listed : Array Bool) : Prop := ∀ m ∈ hards, listed.getD m false = false

def wpAnyT (P : Program) (ops : Array Oper) (Q : Exit → Act → World → Prop) (S : World → Prop) (hards : List Nat) : Nat → Array Bool → Act → World → Prop
  | 0, listed, a, w => Region.ready .any ops listed = [] ∧ Q .normal a w
  | fuel + 1, listed, a, w =>
    (Region.ready .any ops listed = [] → Q .normal a w) ∧
    ∀ i ∈ Region.ready .any ops listed, wpOp P ops Q i (fun a' w' => (NoneOf hards (listed.setIfInBounds i true) → S w') ∧ wpAnyT P ops Q S hards fuel (listed.setIfInBounds i true) a' w') a w

theorem wpAny_of_T {hards : List Nat} : ∀ (fuel : Nat) (listed : Array Bool) (a : Act) (w : World), wpAnyT P ops Q S hards fuel listed a w → wpAny P .any ops Q fuel listed a w
  | 0, _, _, _, h => h
  | fuel + 1, _, _, _, h => ⟨h.1, fun i hi => wpOp_mono (fun a' w' h' => wpAny_of_T fuel _ a' w' h'.2) (h.2 i hi)⟩

theorem unlisted_both {listed : Array Bool} {i : Nat} (h : listed.getD i true = false) : listed.getD i false = false := getD_both h

theorem wpAnyT_first {hards : List Nat} {i : Nat} {oi : Oper} {v : Value} (hi : ops[i]? = some oi) (hsel : ∀ (j : Nat) (o : Oper) cs b, ops[j]? = some o → o.op ≠ .select cs b)
    (hQ : ∀ c a w, Q (.panic c) (a.put oi.dst v) w → Q (.panic c) a w) (hh : ∀ m ∈ hards, after ops i ops.size m = true) :
    ∀ (fuel : Nat) (listed : Array Bool) (a : Act) (w : World), Closed ops listed →
      (∀ j oj, ops[j]? = some oj → j ≠ i → listed.getD j true = false → (∀ e ∈ oj.after, Region.binds .any e = true → e.on ≠ i) → oi.apart ops oj = true) →
      i ∈ Region.ready .any ops listed → YieldsIf P ops S oi v a → S w →
      wpAnyT P ops Q S hards fuel (listed.setIfInBounds i true) (a.put oi.dst v) w → wpAnyT P ops Q S hards (fuel + 1) listed a w := by
  intro fuel
  induction fuel with
  | zero =>
    intro listed a w _ _ hr hy hS H
    refine ⟨fun h => (by rw [h] at hr; cases hr), fun j hj => ?_⟩
    by_cases hji : j = i
    · subst hji; exact hy.wpOp hi hS ⟨fun _ => hS, H⟩
    · have := ready_mono hj hji
      rw [H.1] at this
      cases this
  | succ fuel ih =>
    intro listed a w hcl hfree hr hy hS H
    refine ⟨fun h => (by rw [h] at hr; cases hr), fun j hj => ?_⟩
    by_cases hji : j = i
    · subst hji; exact hy.wpOp hi hS ⟨fun _ => hS, H⟩
    · have h1 := H.2 j (ready_mono hj hji)
      obtain ⟨hjun, oj, hoj, hall⟩ := mem_ready.1 hj
      have hiun := (mem_ready.1 hr).1
      have hnot : ∀ e ∈ oj.after, Region.binds .any e = true → e.on ≠ i := fun e he hb heq => by
        have h1 := hall e he hb
        rw [heq, unlisted_both hiun] at h1
        cases h1
      have h2 := wpOp_putIf hoj (hfree j oj hoj hji hjun hnot) (fun cs b => hsel i oi cs b hi) (fun cs b => hsel j oj cs b hoj) hQ hy h1
      have hfree' : ∀ k ok, ops[k]? = some ok → k ≠ i → (listed.setIfInBounds j true).getD k true = false →
          (∀ e ∈ ok.after, Region.binds .any e = true → e.on ≠ i) → oi.apart ops ok = true := fun k ok hk hki hun hno => by
        refine hfree k ok hk hki ?_ hno
        by_cases hjk : j = k
        · subst hjk; exact hjun
        · rw [getD_set_ne true hjk] at hun; exact hun
      have hcl' := hcl.set hj
      have hiun' : (listed.setIfInBounds j true).getD i false = false := by rw [getD_set_ne false hji]; exact unlisted_both hiun
      have hnone : NoneOf hards (listed.setIfInBounds j true) := fun m hm => hcl'.after hiun' _ m (hh m hm)
      have hnone' : NoneOf hards ((listed.setIfInBounds i true).setIfInBounds j true) := fun m hm => by
        have hmi : i ≠ m := by
          rintro rfl
          -- i does not come behind itself
          have := hcl.after (unlisted_both hiun) _ i (hh i hm)
          have hri := mem_ready.1 hr
          obtain ⟨_, o', ho', hall'⟩ := hri
          have h3 := hh i hm
          have h4 : ∀ f, after ops i f i = true → False := by
            intro f
            cases f with
            | zero => intro h; simp [Ytllcankinjomaaa.after] at h
            | succ f =>
              intro h
              rw [Ytllcankinjomaaa.after, ho'] at h
              obtain ⟨e, he, hb⟩ := Array.any_eq_true'.1 h
              simp only [Bool.and_eq_true, Bool.or_eq_true, beq_iff_eq] at hb
              have h5 := hall' e he hb.1
              rcases hb.2 with h6 | h6
              · rw [h6, unlisted_both hiun] at h5; cases h5
              · rw [hcl.after (unlisted_both hiun) f e.on h6] at h5; cases h5
          exact h4 _ h3
        rw [Array.setIfInBounds_comm _ _ (Ne.symm hji), getD_set_ne false hmi]
        exact hnone m hm
      refine wpOp_mono (fun a' w' h3 => ?_) h2
      have hSw := h3.2.1 hnone'
      refine ⟨fun _ => hSw, ih (listed.setIfInBounds j true) a' w' hcl' hfree' (ready_mono hr (Ne.symm hji)) h3.1 hSw ?_⟩
      rw [Array.setIfInBounds_comm _ _ hji]
      exact h3.2.2

/-- the same for an operation that yields in whatever world -/
theorem wpAnyT_free {hards : List Nat} {i : Nat} {oi : Oper} {v : Value} (hi : ops[i]? = some oi) (hsel : ∀ (j : Nat) (o : Oper) cs b, ops[j]? = some o → o.op ≠ .select cs b)
    (hQ : ∀ c a w, Q (.panic c) (a.put oi.dst v) w → Q (.panic c) a w) (hh : i ∉ hards) :
    ∀ (fuel : Nat) (listed : Array Bool) (a : Act) (w : World), (NoneOf hards listed → S w) →
      (∀ j oj, ops[j]? = some oj → j ≠ i → listed.getD j true = false → (∀ e ∈ oj.after, Region.binds .any e = true → e.on ≠ i) → oi.apart ops oj = true) →
      i ∈ Region.ready .any ops listed → YieldsIf P ops (fun _ => True) oi v a →
      wpAnyT P ops Q S hards fuel (listed.setIfInBounds i true) (a.put oi.dst v) w → wpAnyT P ops Q S hards (fuel + 1) listed a w := by
  have hset : ∀ listed : Array Bool, NoneOf hards listed → NoneOf hards (listed.setIfInBounds i true) := fun listed h m hm => by
    rw [getD_set_ne false (fun e => hh (by rw [e]; exact hm))]
    exact h m hm
  have hunset : ∀ listed : Array Bool, NoneOf hards (listed.setIfInBounds i true) → NoneOf hards listed := fun listed h m hm => by
    have := h m hm
    rwa [getD_set_ne false (fun e => hh (by rw [e]; exact hm))] at this
  intro fuel
  induction fuel with
  | zero =>
    intro listed a w hS _ hr hy H
    refine ⟨fun h => (by rw [h] at hr; cases hr), fun j hj => ?_⟩
    by_cases hji : j = i
    · subst hji; exact hy.wpOp hi trivial ⟨fun h => hS (hunset _ h), H⟩
    · have := ready_mono hj hji
      rw [H.1] at this
      cases this
  | succ fuel ih =>
    intro listed a w hS hfree hr hy H
    refine ⟨fun h => (by rw [h] at hr; cases hr), fun j hj => ?_⟩
    by_cases hji : j = i
    · subst hji; exact hy.wpOp hi trivial ⟨fun h => hS (hunset _ h), H⟩
    · have h1 := H.2 j (ready_mono hj hji)
      obtain ⟨hjun, oj, hoj, hall⟩ := mem_ready.1 hj
      have hiun := (mem_ready.1 hr).1
      have hnot : ∀ e ∈ oj.after, Region.binds .any e = true → e.on ≠ i := fun e he hb heq => by
        have h1 := hall e he hb
        rw [heq, unlisted_both hiun] at h1
        cases h1
      have h2 := wpOp_putIf hoj (hfree j oj hoj hji hjun hnot) (fun cs b => hsel i oi cs b hi) (fun cs b => hsel j oj cs b hoj) hQ hy h1
      have hfree' : ∀ k ok, ops[k]? = some ok → k ≠ i → (listed.setIfInBounds j true).getD k true = false →
          (∀ e ∈ ok.after, Region.binds .any e = true → e.on ≠ i) → oi.apart ops ok = true := fun k ok hk hki hun hno => by
        refine hfree k ok hk hki ?_ hno
        by_cases hjk : j = k
        · subst hjk; exact hjun
        · rw [getD_set_ne true hjk] at hun; exact hun
      refine wpOp_mono (fun a' w' h3 => ?_) h2
      have hSw : NoneOf hards (listed.setIfInBounds j true) → S w' := fun hn => h3.2.1 (by rw [Array.setIfInBounds_comm _ _ (Ne.symm hji)]; exact hset _ hn)
      refine ⟨hSw, ih (listed.setIfInBounds j true) a' w' hSw hfree' (ready_mono hr (Ne.symm hji)) h3.1 ?_⟩
      rw [Array.setIfInBounds_comm _ _ hji]
      exact h3.2.2
end

section
variable {P : Program} {Q : Exit → Act → World → Prop} {S : World → Prop}
/-- an order, each operation with its kind; where two effects are in order at once, both orders -/
inductive Pi where
  | nil
  | cons (p : Nat × Nat) (π : Pi)
  | two (i j : Nat) (π π' : Pi)
def Pi.ofList : List (Nat × Nat) → Pi
  | [] => .nil
  | p :: l => .cons p (Pi.ofList l)
/-- an order, then another -/
def Pi.chain : List (Nat × Nat) → Pi → Pi
  | [], π => π
  | p :: l, π => .cons p (Pi.chain l π)
def Pi.long : Pi → Nat
  | .nil => 0
  | .cons _ π => π.long + 1
  | .two _ _ π π' => max π.long π'.long + 1

/-- the walk along an order: 0: a plain operation in the worlds that meet S, 1: one that keeps S, 2: one behind which S is not asked, 3: a plain operation in whatever world -/
def wpPi (P : Program) (l : List Oper) (Q : Exit → Act → World → Prop) (S : World → Prop) : Pi → Act → World → Prop
  | .nil, a, w => Q .normal a w
  | .two i j π π', a, w => (match l[i]? with
    | none => False
    | some o => if Region.wanted o (yielded l.toArray a.tmps) = true then o.wp P a w (fun a' w' => S w' ∧ wpPi P l Q S π a' w') Q else wpPi P l Q S π (a.put o.dst undef) w) ∧
    (match l[j]? with
    | none => False
    | some o => if Region.wanted o (yielded l.toArray a.tmps) = true then o.wp P a w (fun a' w' => S w' ∧ wpPi P l Q S π' a' w') Q else wpPi P l Q S π' (a.put o.dst undef) w)
  | .cons (i, k) π, a, w => match l[i]? with
    | none => False
    | some o => if Region.wanted o (yielded l.toArray a.tmps) = true then
        match k with
        | 0 => o.quiet P a (fun w' => ∃ u : In S, w' = u.v) (fun a' => wpPi P l Q S π a' w)
        | 1 => o.wp P a w (fun a' w' => S w' ∧ wpPi P l Q S π a' w') Q
        | 3 => o.quiet P a (fun w' => ∃ u : In (fun _ => True), w' = u.v) (fun a' => wpPi P l Q S π a' w)
        | _ => o.wp P a w (wpPi P l Q S π) Q
      else wpPi P l Q S π (a.put o.dst undef) w

/-- is the order one that serves -/
def okPi (ops : Array Oper) (hards : List Nat) : Pi → Array Bool → Bool
  | .nil, listed => (Region.ready .any ops listed).isEmpty
  | .two i j π π', listed => (Region.ready .any ops listed == [i, j] && !(hards.contains i) && !(hards.contains j)) && (okPi ops hards π (listed.setIfInBounds i true) && okPi ops hards π' (listed.setIfInBounds j true))
  | .cons (i, k) π, listed => (match ops[i]? with
      | none => false
      | some o => (match k with
        | 0 => plainOp o.op && (Region.ready .any ops listed).contains i && Region.free .any ops listed i && hards.all (fun m => after ops i ops.size m)
        | 1 => Region.ready .any ops listed == [i] && !(hards.contains i)
        | 2 => Region.ready .any ops listed == [i] && o.guard.isNone && hards.contains i
        | 3 => plainOp o.op && (Region.ready .any ops listed).contains i && Region.free .any ops listed i && !(hards.contains i)
        | _ => false)) && okPi ops hards π (listed.setIfInBounds i true)

theorem wpAnyT_of_pi {l : List Oper} {hards : List Nat} (hs : Region.noSelect l.toArray = true) (hQ : ∀ c a a' w, Q (.panic c) a w → Q (.panic c) a' w) :
    ∀ (π : Pi) (fuel : Nat) (listed : Array Bool) (a : Act) (w : World), Closed l.toArray listed → okPi l.toArray hards π listed = true → (NoneOf hards listed → S w) → π.long ≤ fuel →
      wpPi P l Q S π a w → wpAnyT P l.toArray Q S hards fuel listed a w
  | .nil, fuel, listed, a, w, hcl, hok, hS, hf, h => by
    simp only [okPi, List.isEmpty_iff] at hok
    cases fuel with
    | zero => exact ⟨hok, h⟩
    | succ f => exact ⟨fun _ => h, by rw [hok]; simp⟩
  | .two i j π π', fuel, listed, a, w, hcl, hok, hS, hf, h => by
    cases fuel with
    | zero => simp [Pi.long] at hf
    | succ f =>
      rw [okPi] at hok
      rw [wpPi] at h
      simp only [Bool.and_eq_true, beq_iff_eq, Bool.not_eq_true', ← Bool.not_eq_true, List.contains_iff_mem] at hok
      obtain ⟨⟨⟨hr, hi⟩, hj⟩, hok1, hok2⟩ := hok
      have hf1 : π.long ≤ f := by simp only [Pi.long] at hf; omega
      have hf2 : π'.long ≤ f := by simp only [Pi.long] at hf; omega
      have hun : ∀ i, i ∉ hards → NoneOf hards (listed.setIfInBounds i true) → NoneOf hards listed := fun i hh hn m hm => by
        have := hn m hm
        rwa [getD_set_ne false (fun e => hh (by rw [e]; exact hm))] at this
      have go : ∀ (i : Nat) (π : Pi), i ∉ hards → i ∈ Region.ready .any l.toArray listed → okPi l.toArray hards π (listed.setIfInBounds i true) = true → π.long ≤ f →
          (∀ listed a w, Closed l.toArray listed → okPi l.toArray hards π listed = true → (NoneOf hards listed → S w) → wpPi P l Q S π a w → wpAnyT P l.toArray Q S hards f listed a w) →
          (match l[i]? with
            | none => False
            | some o => if Region.wanted o (yielded l.toArray a.tmps) = true then o.wp P a w (fun a' w' => S w' ∧ wpPi P l Q S π a' w') Q else wpPi P l Q S π (a.put o.dst undef) w) →
          wpOp P l.toArray Q i (fun a' w' => (NoneOf hards (listed.setIfInBounds i true) → S w') ∧ wpAnyT P l.toArray Q S hards f (listed.setIfInBounds i true) a' w') a w := by
        intro i π hh hir hok hfl ih h
        have hla : l.toArray[i]? = l[i]? := by simp
        unfold wpOp
        rw [hla]
        cases ho : l[i]? with
        | none => rw [ho] at h; exact h.elim
        | some o =>
          rw [ho] at h
          simp only at h ⊢
          by_cases hw : Region.wanted o (yielded l.toArray a.tmps) = true
          · rw [if_pos hw] at h ⊢
            exact .inl (Oper.wp_mono (fun a' w' h' => ⟨fun _ => h'.1, ih _ a' w' (hcl.set hir) hok (fun _ => h'.1) h'.2⟩) h)
          · rw [if_neg hw] at h ⊢
            have hSw : NoneOf hards (listed.setIfInBounds i true) → S w := fun hn => hS (hun i hh hn)
            exact ⟨hSw, ih _ _ w (hcl.set hir) hok hSw h⟩
      refine ⟨fun h0 => (by rw [hr] at h0; cases h0), fun k hk => ?_⟩
      have hk' := hk
      rw [hr] at hk'
      rcases List.mem_cons.1 hk' with rfl | hk'
      · exact go _ π hi hk hok1 hf1 (fun listed a w h1 h2 h3 h4 => wpAnyT_of_pi hs hQ π f listed a w h1 h2 h3 hf1 h4) h.1
      · obtain rfl : k = j := by simpa using hk'
        exact go _ π' hj hk hok2 hf2 (fun listed a w h1 h2 h3 h4 => wpAnyT_of_pi hs hQ π' f listed a w h1 h2 h3 hf2 h4) h.2
  | .cons (i, k) π, fuel, listed, a, w, hcl, hok, hS, hf, h => by
    cases fuel with
    | zero => simp [Pi.long] at hf
    | succ f =>
      rw [okPi] at hok
      rw [wpPi] at h
      have hla : l.toArray[i]? = l[i]? := by simp
      rw [hla] at hok
      cases ho : l[i]? with
      | none => rw [ho] at h; exact h.elim
      | some o =>
        rw [ho] at hok h
        simp only [Bool.and_eq_true] at hok h
        obtain ⟨hk, hok'⟩ := hok
        have hi : l.toArray[i]? = some o := by rw [hla]; exact ho
        have hf' : π.long ≤ f := by simp only [Pi.long] at hf; omega
        match k, hk, h with
        | 0, hk, h =>
          simp only [Bool.and_eq_true, List.all_eq_true, List.contains_iff_mem] at hk
          obtain ⟨⟨⟨hp, hr⟩, hfr⟩, hh⟩ := hk
          have hiun := (mem_ready.1 hr).1
          have hnone : NoneOf hards listed := fun m hm => hcl.after (unlisted_both hiun) _ m (hh m hm)
          have hSw := hS hnone
          have go : ∀ v, YieldsIf P l.toArray S o v a → wpPi P l Q S π (a.put o.dst v) w → wpAnyT P l.toArray Q S hards (f + 1) listed a w := fun v hy hrest =>
            wpAnyT_first hi (Region.noSelect_spec hs) (fun c a w h => hQ c _ _ w h) hh f listed a w hcl (Region.free_spec hi hfr) hr hy hSw
              (wpAnyT_of_pi hs hQ π f _ _ w (hcl.set hr) hok' (fun _ => hSw) hf' hrest)
          by_cases hw : Region.wanted o (yielded l.toArray a.tmps) = true
          · rw [if_pos hw] at h
            obtain ⟨v, h1, h2⟩ := h
            refine go v (.inl ⟨hw, fun w' hw' => ?_⟩) h2
            have h3 := h1 w' ⟨⟨w', hw'⟩, rfl⟩
            unfold Oper.quietAt at h3
            cases hrun : (execOp a.eval o).run P w' with
            | ok n w2 =>
              obtain ⟨u, rfl⟩ := plain_value hp hrun
              rw [hrun] at h3
              obtain ⟨rfl, rfl⟩ := h3
              rfl
            | halt x w2 => rw [hrun] at h3; exact h3.elim
          · rw [if_neg hw] at h
            exact go undef (.inr ⟨by simpa using hw, rfl⟩) h
        | 1, hk, h =>
          simp only [Bool.and_eq_true, beq_iff_eq, Bool.not_eq_true', ← Bool.not_eq_true, List.contains_iff_mem] at hk
          obtain ⟨hr, hh⟩ := hk
          refine ⟨fun h0 => (by rw [hr] at h0; cases h0), fun j hj => ?_⟩
          rw [hr] at hj
          obtain rfl : j = i := by simpa using hj
          unfold wpOp
          simp only [hi]
          by_cases hw : Region.wanted o (yielded l.toArray a.tmps) = true
          case neg =>
            rw [if_neg hw] at h ⊢
            have hSw : NoneOf hards (listed.setIfInBounds j true) → S w := fun hn => hS fun m hm => by
              have := hn m hm
              rwa [getD_set_ne false (fun e => hh (by rw [e]; exact hm))] at this
            exact ⟨hSw, wpAnyT_of_pi hs hQ π f _ _ w (hcl.set (by rw [hr]; simp)) hok' hSw hf' h⟩
          rw [if_pos hw] at h ⊢
          refine .inl (Oper.wp_mono (fun a' w' h' => ⟨fun _ => h'.1, wpAnyT_of_pi hs hQ π f _ a' w' (hcl.set (by rw [hr]; simp)) hok' (fun _ => h'.1) hf' h'.2⟩) h)
        | 3, hk, h =>
          simp only [Bool.and_eq_true, List.contains_iff_mem, Bool.not_eq_true', ← Bool.not_eq_true] at hk
          obtain ⟨⟨⟨hp, hr⟩, hfr⟩, hh⟩ := hk
          have go : ∀ v, YieldsIf P l.toArray (fun _ => True) o v a → wpPi P l Q S π (a.put o.dst v) w → wpAnyT P l.toArray Q S hards (f + 1) listed a w := fun v hy hrest =>
            wpAnyT_free hi (Region.noSelect_spec hs) (fun c a w h => hQ c _ _ w h) hh f listed a w hS (Region.free_spec hi hfr) hr hy
              (wpAnyT_of_pi hs hQ π f _ _ w (hcl.set hr) hok' (fun hn => hS fun m hm => by
                have := hn m hm
                rwa [getD_set_ne false (fun e => hh (by rw [e]; exact hm))] at this) hf' hrest)
          by_cases hw : Region.wanted o (yielded l.toArray a.tmps) = true
          · rw [if_pos hw] at h
            obtain ⟨v, h1, h2⟩ := h
            refine go v (.inl ⟨hw, fun w' _ => ?_⟩) h2
            have h3 := h1 w' ⟨⟨w', trivial⟩, rfl⟩
            unfold Oper.quietAt at h3
            cases hrun : (execOp a.eval o).run P w' with
            | ok n w2 =>
              obtain ⟨u, rfl⟩ := plain_value hp hrun
              rw [hrun] at h3
              obtain ⟨rfl, rfl⟩ := h3
              rfl
            | halt x w2 => rw [hrun] at h3; exact h3.elim
          · rw [if_neg hw] at h
            exact go undef (.inr ⟨by simpa using hw, rfl⟩) h
        | k + 4, hk, h => cases hk
        | 2, hk, h =>
          simp only [Bool.and_eq_true, beq_iff_eq, List.contains_iff_mem] at hk
          obtain ⟨⟨hr, hg⟩, hm⟩ := hk
          have hw : Region.wanted o (yielded l.toArray a.tmps) = true := by
            unfold Region.wanted; rw [Option.isNone_iff_eq_none.1 hg]
          rw [if_pos hw] at h
          have hlt : i < listed.size := by
            have hri : i ∈ Region.ready .any l.toArray listed := by rw [hr]; simp
            have := (mem_ready.1 hri).1
            rcases Nat.lt_or_ge i listed.size with h' | h'
            · exact h'
            · simp [Array.getElem?_eq_none h'] at this
          have hno : ¬ NoneOf hards (listed.setIfInBounds i true) := fun hn => by
            have := hn i hm
            simp [hlt] at this
          refine ⟨fun h0 => (by rw [hr] at h0; cases h0), fun j hj => ?_⟩
          rw [hr] at hj
          obtain rfl : j = i := by simpa using hj
          unfold wpOp
          simp only [hi, hw, if_true]
          refine .inl (Oper.wp_mono (fun a' w' h' => ⟨fun hn => absurd hn hno, wpAnyT_of_pi hs hQ π f _ a' w' (hcl.set (by rw [hr]; simp)) hok' (fun hn => absurd hn hno) hf' h'⟩) h)

/-- **THE REGION**: π: the order, each with its kind; hards: those of kind 2. -/
theorem wp_region_tree {id : Nat} {a : Act} {w : World} {l : List Oper} (S : World → Prop) (π : Pi) (hards : List Nat) (hm : P.follows .mixedOrders = true)
    (hok : (Region.noSelect l.toArray && decide (π.long ≤ l.length) && okPi l.toArray hards π (Array.replicate l.length false)) = true)
    (hS : S w.drew) (h : wpPi P l (NoPanic Q) S π a w.drew) : (Code.region id l.toArray true).wp P Q a w := by
  simp only [Bool.and_eq_true, decide_eq_true_eq] at hok
  refine wp_region_noPanic (wp_region_any hm (wpAny_of_T (S := S) (hards := hards) _ _ _ _ ?_))
  have := wpAnyT_of_pi (P := P) (S := S) (Q := NoPanic Q) (hards := hards) hok.1.1 (fun _ _ _ _ h => h) π l.length (Array.replicate l.length false) a w.drew
    (fun j oj hj hl => by rw [getD_replicate_false] at hl; cases hl) hok.2 (fun _ => hS) hok.1.2 h
  simpa using this

theorem wp_region_pi {id : Nat} {a : Act} {w : World} {l : List Oper} (S : World → Prop) (π : List (Nat × Nat)) (hards : List Nat) (hm : P.follows .mixedOrders = true)
    (hok : (Region.noSelect l.toArray && decide ((Pi.ofList π).long ≤ l.length) && okPi l.toArray hards (Pi.ofList π) (Array.replicate l.length false)) = true)
    (hS : S w.drew) (h : wpPi P l (NoPanic Q) S (Pi.ofList π) a w.drew) : (Code.region id l.toArray true).wp P Q a w := wp_region_tree S _ hards hm hok hS h

/-- at the worlds in which all that was there still is -/
theorem wp_region_piUp {id : Nat} {a : Act} {w : World} {l : List Oper} (π : List (Nat × Nat)) (hards : List Nat) (hm : P.follows .mixedOrders = true)
    (hok : (Region.noSelect l.toArray && decide ((Pi.ofList π).long ≤ l.length) && okPi l.toArray hards (Pi.ofList π) (Array.replicate l.length false)) = true)
    (h : wpPi P l (NoPanic Q) (fun w' => Below w.heap.size w w') (Pi.ofList π) a w.drew) : (Code.region id l.toArray true).wp P Q a w :=
  wp_region_pi _ π hards hm hok ⟨rfl, rfl, rfl, Nat.le_refl _, fun _ _ => rfl⟩ h

/-! ### the walk's steps -/
variable {l : List Oper} {i : Nat} {π π' : Pi} {a : Act} {w : World} {o : Oper}
theorem pi_nil (h : Q .normal a w) : wpPi P l (NoPanic Q) S .nil a w := h
theorem pi_plain (ho : l[i]? = some o) (hw : Region.wanted o (yielded l.toArray a.tmps) = true)
    (h : ∀ K : Act → Prop, (∀ a, wpPi P l Q S π a w → K a) → o.quiet P a (fun w' => ∃ u : In S, w' = u.v) K) : wpPi P l Q S (.cons (i, 0) π) a w := by
  rw [wpPi, ho]; simp only [hw, if_true]; exact h _ fun _ h => h
theorem pi_free (ho : l[i]? = some o) (hw : Region.wanted o (yielded l.toArray a.tmps) = true)
    (h : ∀ K : Act → Prop, (∀ a, wpPi P l Q S π a w → K a) → o.quiet P a (fun w' => ∃ u : In (fun _ => True), w' = u.v) K) : wpPi P l Q S (.cons (i, 3) π) a w := by
  rw [wpPi, ho]; simp only [hw, if_true]; exact h _ fun _ h => h
theorem pi_skip (k : Nat) (ho : l[i]? = some o) (hw : Region.wanted o (yielded l.toArray a.tmps) = false) (h : wpPi P l Q S π (a.put o.dst undef) w) : wpPi P l Q S (.cons (i, k) π) a w := by
  rw [wpPi, ho]; simp only [hw, Bool.false_eq_true, if_false]; exact h
theorem pi_soft (ho : l[i]? = some o) (hw : Region.wanted o (yielded l.toArray a.tmps) = true)
    (h : ∀ K : Act → World → Prop, (∀ a w, S w → wpPi P l Q S π a w → K a w) → o.wp P a w K Q) : wpPi P l Q S (.cons (i, 1) π) a w := by
  rw [wpPi, ho]; simp only [hw, if_true]; exact h _ fun _ _ hs h => ⟨hs, h⟩
theorem pi_hard (ho : l[i]? = some o) (hw : Region.wanted o (yielded l.toArray a.tmps) = true)
    (h : ∀ K : Act → World → Prop, (∀ a w, wpPi P l Q S π a w → K a w) → o.wp P a w K Q) : wpPi P l Q S (.cons (i, 2) π) a w := by
  rw [wpPi, ho]; simp only [hw, if_true]; exact h _ fun _ _ h => h
theorem pi_two {j : Nat} {o' : Oper} (ho : l[i]? = some o) (hw : Region.wanted o (yielded l.toArray a.tmps) = true) (ho' : l[j]? = some o') (hw' : Region.wanted o' (yielded l.toArray a.tmps) = true)
    (h : ∀ K : Act → World → Prop, (∀ a w, S w → wpPi P l Q S π a w → K a w) → o.wp P a w K Q)
    (h' : ∀ K : Act → World → Prop, (∀ a w, S w → wpPi P l Q S π' a w → K a w) → o'.wp P a w K Q) : wpPi P l Q S (.two i j π π') a w := by
  rw [wpPi, ho, ho']; simp only [hw, hw', if_true]; exact ⟨h _ fun _ _ hs h => ⟨hs, h⟩, h' _ fun _ _ hs h => ⟨hs, h⟩⟩
end
end Go.Proofs.Ytllcankinjomaaa
