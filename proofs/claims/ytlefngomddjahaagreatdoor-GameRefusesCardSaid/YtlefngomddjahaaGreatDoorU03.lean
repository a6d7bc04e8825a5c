/- Calls, code, functions, returns, loops. -/
import Derived.Test.YtlefngomddjahaaGreatDoorU02
namespace Go.Proofs.YtlefngomddjahaaGreatDoor
set_option linter.unusedSimpArgs false
set_option linter.unusedVariables false
open Go.RowKit

def callE (P : Program) (n0 N : Nat) (ops : List Oper) (i : Nat) (L : FL) (H R : HL) (hints : List Hint) : Option (Option Tmp × FuncId × Array Value × HL × List Nat × List Nat × List Prop) :=
  match ops[i]? with
  | none => none
  | some o => match wantL ops o L ⟨H, R, hints, 0, [], [], true⟩ with
    | some (true, s) => match okOps o.op L with
      | true => match ev P n0 o (rho L) s with
        | some (.enter f args, s') => match s'.hints with
          | [] => some (o.dst, f, args, s'.h, s'.eq.map (·.1), s'.eq.map (·.2), s'.ob)
          | _ => none
        | _ => none
      | false => none
    | _ => none

section
variable {r : Option Nat} {P : Program} {N : Nat} {D : List Deferred} {F : HL} {w0 : World} {ops : Array Oper} {i : Nat} {L : FL} {H : HL} {Q : Exit → Act → World → Prop}

theorem range_filterMap (H : HL) : (List.range H.length).filterMap (H[·]?) = H := by
  induction H with
  | nil => rfl
  | cons x H ih =>
    rw [List.length_cons, List.range_succ_eq_map, List.filterMap_cons]
    simp only [List.getElem?_cons_zero, List.filterMap_map]
    congr 1
theorem callE_spec {n0 : Nat} {R : HL} {hints : List Hint} {dst : Option Tmp} {f : FuncId} {args : Array Value} {H1 : HL} {E E' : List Nat} {Ob : List Prop} {l : List Oper}
    (h : callE P n0 N l i L H R hints = some (dst, f, args, H1, E, E', Ob)) :
    ∃ o s s', l[i]? = some o ∧ wantL l o L ⟨H, R, hints, 0, [], [], true⟩ = some (true, s) ∧ okOps o.op L = true ∧ ev P n0 o (rho L) s = some (.enter f args, s') ∧ o.dst = dst ∧ s'.h = H1 ∧ s'.eq.map (·.1) = E ∧ s'.eq.map (·.2) = E' ∧ s'.ob = Ob := by
  unfold callE at h
  split at h
  · cases h
  · rename_i o ho
    split at h
    case h_2 => cases h
    rename_i s hs
    split at h
    case h_2 => cases h
    rename_i hok
    split at h
    case h_2 => cases h
    rename_i f' args' s' he
    split at h
    case h_2 => cases h
    simp only [Option.some.injEq, Prod.mk.injEq] at h
    obtain ⟨e1, e2, e3, e4, e5, e6, e7⟩ := h
    subst e2; subst e3
    exact ⟨o, s, s', ho, hs, hok, he, e1, e4, e5, e6, e7⟩

/-- a call of a function that hands back a value and leaves the known blocks alone -/
theorem TL.callp (R : HL) (hints : List Hint) {dst : Option Tmp} {f : FuncId} {args : Array Value} {H1 : HL} {E : List Nat} {Ob : List Prop} (live : List Nat) (v : Value) (Lf : FL)
    (h : ∀ n0, callE P n0 N ops.toList i L H R hints = some (dst, f, args, H1, E, E, Ob)) (hR : ∀ y ∈ R, y ∈ F) (hob : AllP Ob)
    (hc : Sp P f args [] (H1 ++ F) (fun u H' => u = v ∧ H' = []))
    (hl : (putL N dst v L).bind (pickL live) = some Lf)
    (hk : TL r P N D F w0 ops (i + 1) Lf H1 Q) : TL r P N D F w0 ops i L H Q := by
  refine TL.call_gen (fun n0 => callE_spec (h n0)) hR hob (Hp := []) (Hr := H1) (List.Perm.refl _) hc ?_
  rintro u H' ⟨rfl, rfl⟩
  rw [Option.bind_eq_some_iff] at hl
  obtain ⟨L', h2, h3⟩ := hl
  exact ⟨L', h2, fun a w hF hR hB => hk a w (hF.pick h3) hR hB⟩

/-! ### code -/
theorem TR.seq {x y : Code} (h : TR r P N D F w0 L H x (Exit.then (y.wpIn (Wr r) 0 P Q) Q)) : TR r P N D F w0 L H (.seq x y) Q := fun a w h1 h2 h3 => wpIn_seq (h a w h1 h2 h3)
theorem TR.reg {id : Nat} (h : TL r P N D F w0 ops 0 L H Q) : TR r P N D F w0 L H (.region id ops false) Q := fun a w h1 h2 h3 => wpIn_region_list (h a w h1 h2 h3)
theorem TR.block {id : Nat} {c : Code} (h : TR r P N D F w0 L H c (Exit.inBlock id Q)) : TR r P N D F w0 L H (.block id c) Q := fun a w h1 h2 h3 => wpIn_block (h a w h1 h2 h3)
theorem TR.skip (h : EX N D F w0 L H Q .normal) : TR r P N D F w0 L H .skip Q := fun a w h1 h2 h3 => wpIn_skip (h a w h1 h2 h3)
theorem TR.exit {id : Nat} (h : EX N D F w0 L H Q (.exit id)) : TR r P N D F w0 L H (.exit id) Q := fun a w h1 h2 h3 => wpIn_exit (h a w h1 h2 h3)
theorem TR.retx (h : EX N D F w0 L H Q .ret) : TR r P N D F w0 L H .ret Q := fun a w h1 h2 h3 => wpIn_ret (h a w h1 h2 h3)
theorem TR.cond {c : Operand} {x y : Code} (b : Bool) (hi : inL L c = true) (hc : rho L c = .bool b) (ht : b = true → TR r P N D F w0 L H x Q) (hf : b = false → TR r P N D F w0 L H y Q) : TR r P N D F w0 L H (.cond c x y) Q :=
  fun a w h1 h2 h3 => wpIn_cond_split ((h1.eval hi).trans hc) (fun h => ht h a w h1 h2 h3) (fun h => hf h a w h1 h2 h3)
theorem TR.condP {c : Operand} {x y : Code} (p : Prop) [Decidable p] (hi : inL L c = true) (hc : rho L c = .bool (decide p)) (ht : p → TR r P N D F w0 L H x Q) (hf : ¬ p → TR r P N D F w0 L H y Q) : TR r P N D F w0 L H (.cond c x y) Q :=
  TR.cond (decide p) hi hc (fun h => ht (of_decide_eq_true h)) (fun h => hf (of_decide_eq_false h))
theorem TR.condN {c : Operand} {x y : Code} (p : Prop) [Decidable p] (hi : inL L c = true) (hc : rho L c = .bool (!decide p)) (ht : ¬ p → TR r P N D F w0 L H x Q) (hf : p → TR r P N D F w0 L H y Q) : TR r P N D F w0 L H (.cond c x y) Q :=
  TR.cond (!decide p) hi hc (fun h => ht (by simpa using h)) (fun h => hf (by simpa using h))
theorem TR.yes {c : Operand} {x y : Code} {b : Bool} (hi : inL L c = true) (hc : rho L c = .bool b) (hb : b = true) (h : TR r P N D F w0 L H x Q) : TR r P N D F w0 L H (.cond c x y) Q :=
  TR.cond b hi hc (fun _ => h) (fun e => by rw [hb] at e; cases e)
theorem TR.no {c : Operand} {x y : Code} {b : Bool} (hi : inL L c = true) (hc : rho L c = .bool b) (hb : b = false) (h : TR r P N D F w0 L H y Q) : TR r P N D F w0 L H (.cond c x y) Q :=
  TR.cond b hi hc (fun e => by rw [hb] at e; cases e) (fun _ => h)
theorem TR.conv {c : Code} (L' : FL) (e : L = L') (h : TR r P N D F w0 L' H c Q) : TR r P N D F w0 L H c Q := e ▸ h
theorem TR.convH {c : Code} (H' : HL) (e : H = H') (h : TR r P N D F w0 L H' c Q) : TR r P N D F w0 L H c Q := e ▸ h
theorem TL.conv (L' : FL) (e : L = L') (h : TL r P N D F w0 ops i L' H Q) : TL r P N D F w0 ops i L H Q := e ▸ h
theorem TL.convH (H' : HL) (e : H = H') (h : TL r P N D F w0 ops i L H' Q) : TL r P N D F w0 ops i L H Q := e ▸ h
theorem EX.conv {e : Exit} (L' : FL) (h0 : L = L') (h : EX N D F w0 L' H Q e) : EX N D F w0 L H Q e := h0 ▸ h
theorem EX.convH {e : Exit} (H' : HL) (h0 : H = H') (h : EX N D F w0 L H' Q e) : EX N D F w0 L H Q e := h0 ▸ h
theorem TR.pick {c : Code} (keys : List Nat) (L' : FL) (e : pickL keys L = some L') (h : TR r P N D F w0 L' H c Q) : TR r P N D F w0 L H c Q := fun a w h1 h2 h3 => h a w (h1.pick e) h2 h3
/-- the blocks at other places, or fewer -/
theorem Rel.take {H F H' : HL} {w : World} (ip ir : List Nat) (hp : (ip ++ ir).isPerm (List.range H.length) = true) (e : ip.filterMap (H[·]?) = H') (h : Rel (H ++ F) w) : Rel (H' ++ F) w := by
  have h1 := (List.isPerm_iff.1 hp).filterMap (H[·]?)
  rw [range_filterMap, List.filterMap_append, e] at h1
  have h2 := h.perm (h1.append_right F)
  rw [List.append_assoc] at h2
  exact h2.sub ((List.Sublist.refl _).append (List.sublist_append_right _ _))
/-- known blocks, and tails of which is known what hypotheses say -/
abbrev ap (A : HL) (Ts : List HL) : HL := A ++ Ts.flatten
theorem pick_perm {α : Type} (l : List α) (ip ir : List Nat) (hp : (ip ++ ir).isPerm (List.range l.length) = true) : (ip.filterMap (l[·]?) ++ ir.filterMap (l[·]?)).Perm l := by
  have h1 := (List.isPerm_iff.1 hp).filterMap (l[·]?)
  have h2 : (List.range l.length).filterMap (l[·]?) = l := by
    clear hp h1
    induction l with
    | nil => rfl
    | cons x l ih =>
      rw [List.length_cons, List.range_succ_eq_map, List.filterMap_cons]
      simp only [List.getElem?_cons_zero, List.filterMap_map]
      congr 1
  rw [h2, List.filterMap_append] at h1
  exact h1
theorem ap_perm (A : HL) (Ts : List HL) (ip ir jp jr : List Nat) (hp : (ip ++ ir).isPerm (List.range A.length) = true) (hj : (jp ++ jr).isPerm (List.range Ts.length) = true) :
    (ap (ip.filterMap (A[·]?)) (jp.filterMap (Ts[·]?)) ++ ap (ir.filterMap (A[·]?)) (jr.filterMap (Ts[·]?))).Perm (ap A Ts) := by
  have h1 := pick_perm A ip ir hp
  have h2 := (pick_perm Ts jp jr hj).flatten
  rw [List.flatten_append] at h2
  refine List.Perm.trans ?_ (List.Perm.append h1 h2)
  rw [List.append_assoc, List.append_assoc]
  refine List.Perm.append_left _ ?_
  rw [← List.append_assoc, ← List.append_assoc]
  exact List.Perm.append_right _ List.perm_append_comm
theorem ap_swap (A B : HL) (As Bs : List HL) (C : HL) : (ap A As ++ (ap B Bs ++ C)).Perm (ap (A ++ B) (As ++ Bs) ++ C) := by
  rw [← List.append_assoc]
  refine List.Perm.append_right C ?_
  show (A ++ As.flatten ++ (B ++ Bs.flatten)).Perm (A ++ B ++ (As ++ Bs).flatten)
  rw [List.flatten_append, List.append_assoc, List.append_assoc]
  refine List.Perm.append_left _ ?_
  rw [← List.append_assoc, ← List.append_assoc]
  exact List.Perm.append_right _ List.perm_append_comm
/-- the blocks that stand in a row, picked; behind them tails, picked -/
theorem Rel.takeT {A F H' : HL} {Ts : List HL} {w : World} (ip ir jp jr : List Nat) (hp : (ip ++ ir).isPerm (List.range A.length) = true) (hj : (jp ++ jr).isPerm (List.range Ts.length) = true) (e : ap (ip.filterMap (A[·]?)) (jp.filterMap (Ts[·]?)) = H') (h : Rel (ap A Ts ++ F) w) : Rel (H' ++ F) w := by
  have h1 := h.perm ((ap_perm A Ts ip ir jp jr hp hj).append_right F)
  rw [List.append_assoc, e] at h1
  exact h1.sub ((List.Sublist.refl _).append (List.sublist_append_right _ _))
theorem TR.take {c : Code} (ip ir : List Nat) (H' : HL) (hp : (ip ++ ir).isPerm (List.range H.length) = true) (e : ip.filterMap (H[·]?) = H') (h : TR r P N D F w0 L H' c Q) : TR r P N D F w0 L H c Q :=
  fun a w h1 h2 h3 => h a w h1 (h2.take ip ir hp e) h3

theorem stepR_scope {P : Program} {b : Frame} {a : Act} {c : Code} {k : List Item} {cs : List Frame} {w : World} :
    step P (lone (b.atR a (.code (.scope c) :: k)) cs w) = .next (lone (b.atR a (.code c :: .inScope c :: k)) cs w) :=
  step_lone_go (by simp [stepG, stepG.exec, Frame.atR])
theorem stepR_inScope {P : Program} {b : Frame} {a : Act} {c : Code} {k : List Item} {cs : List Frame} {w : World} :
    step P (lone (b.atR a (.inScope c :: k)) cs w) = .next (lone (b.atR a k) cs w) :=
  step_lone_go (by simp [stepG, stepG.exec, Frame.atR])
theorem wpIn_scope_straight {Fe : Fence} {n : Nat} {P : Program} {c : Code} {Q : Exit → Act → World → Prop} {a : Act} {w : World} (h : c.wpIn Fe n P (Exit.noGoto Q) a w) : (Code.scope c).wpIn Fe n P Q a w := by
  intro b k cs hro hb hr
  have h0 : (lone (b.atR a (.code (.scope c) :: k)) cs w).fenced P Fe := fenced_calm hb hr rfl
  obtain ⟨e, a₁, w₁, hq, harr⟩ := h b (.inScope c :: k) cs hro hb hr
  cases e with
  | normal => exact ⟨.normal, a₁, w₁, hq, .head h0 stepR_scope (StepsIn.trans harr (.one (fenced_calm hb hr rfl) stepR_inScope))⟩
  | exit id => exact ⟨.exit id, a₁, w₁, hq, fun k' hk => .head h0 stepR_scope (harr.1 k' (by simp [exitTo, hk])), fun hro' hk => let ⟨k₁, h1, h2⟩ := harr.2 hro' (by simpa [exitTo] using hk); ⟨k₁, h1, .head h0 stepR_scope h2⟩⟩
  | goto l => exact hq.elim
  | ret => exact ⟨_, a₁, w₁, hq, .of_steps (.one h0 stepR_scope) harr⟩
  | panic ch => exact ⟨_, a₁, w₁, hq, .of_steps (.one h0 stepR_scope) harr⟩
  | outgrown => exact ⟨_, a₁, w₁, hq, .of_steps (.one h0 stepR_scope) harr⟩
theorem TR.scope {c : Code} (h : TR r P N D F w0 L H c (Exit.noGoto Q)) : TR r P N D F w0 L H (.scope c) Q := fun a w h1 h2 h3 => wpIn_scope_straight (h a w h1 h2 h3)
theorem TR.label {l : Nat} (h : EX N D F w0 L H Q .normal) : TR r P N D F w0 L H (.label l) Q := fun a w h1 h2 h3 => wpIn_label (h a w h1 h2 h3)
theorem EX.ng {e : Exit} (he : e = .normal ∨ (∃ id, e = .exit id) ∨ e = .ret) (h : EX N D F w0 L H Q e) : EX N D F w0 L H (Exit.noGoto Q) e := by
  rcases he with rfl | ⟨id, rfl⟩ | rfl <;> exact h
theorem EX.next {y : Code} (h : TR r P N D F w0 L H y Q) : EX N D F w0 L H (Exit.then (y.wpIn (Wr r) 0 P Q) Q) .normal := h
theorem EX.thn {e : Exit} {K : Act → World → Prop} (he : e ≠ .normal) (h : EX N D F w0 L H Q e) : EX N D F w0 L H (Exit.then K Q) e := by
  intro a w h1 h2 h3
  cases e <;> first | exact absurd rfl he | exact h a w h1 h2 h3
theorem EX.hit {id : Nat} (h : EX N D F w0 L H Q .normal) : EX N D F w0 L H (Exit.inBlock id Q) (.exit id) := by
  intro a w h1 h2 h3
  show (if id = id then _ else _)
  rw [if_pos rfl]; exact h a w h1 h2 h3
theorem EX.miss {id id' : Nat} (hne : id' ≠ id) (h : EX N D F w0 L H Q (.exit id')) : EX N D F w0 L H (Exit.inBlock id Q) (.exit id') := by
  intro a w h1 h2 h3
  show (if id' = id then _ else _)
  rw [if_neg hne]; exact h a w h1 h2 h3
theorem EX.inn {id : Nat} (h : EX N D F w0 L H Q .normal) : EX N D F w0 L H (Exit.inBlock id Q) .normal := h
theorem EX.inr {id : Nat} (h : EX N D F w0 L H Q .ret) : EX N D F w0 L H (Exit.inBlock id Q) .ret := h

abbrev vI (n : Int) : Value := .int .i64 n
abbrev vP (b o : Nat) : Value := .pointer (some ⟨b, o, none⟩)
abbrev vS (b o n c : Nat) : Value := .slice (some ⟨b, o, none⟩) n c
def zrow (l : List Value) : Nat → Nat → Value := fun _ k => (⟨l⟩ : Array Value).getD k default
theorem ac {p : Prop} {l : List Prop} (h : p) (k : AllP l) : AllP (p :: l) := ⟨h, k⟩
theorem an : AllP [] := trivial
theorem mc {F R : HL} {x : Nat × Blk} (h : x ∈ F) (k : ∀ y ∈ R, y ∈ F) : ∀ y ∈ x :: R, y ∈ F := fun y hy => by
  rcases List.mem_cons.1 hy with rfl | hy
  · exact h
  · exact k y hy
theorem mn {F : HL} : ∀ y ∈ ([] : HL), y ∈ F := fun y hy => by cases hy

/-- a call; ip, jp: the blocks and tails that the contract takes, ir, jr: the others -/
theorem TL.callT {τ : Type} (R : HL) (hints : List Hint) {dst : Option Tmp} {f : FuncId} {args : Array Value} {A : HL} {Ts : List HL} {E : List Nat} {Ob : List Prop} (ip ir jp jr live : List Nat) (Hp Hr : HL) (Tp Tr : List HL) (Hq : τ → HL) (Tq : τ → List HL) (Rv : Value → τ → Prop) (Lf : Value → FL)
    (h : ∀ n0, callE P n0 N ops.toList i L H R hints = some (dst, f, args, ap A Ts, E, E, Ob)) (hR : ∀ y ∈ R, y ∈ F) (hob : AllP Ob)
    (hp : (ip ++ ir).isPerm (List.range A.length) = true) (hj : (jp ++ jr).isPerm (List.range Ts.length) = true) (hHp : ip.filterMap (A[·]?) = Hp) (hHr : ir.filterMap (A[·]?) = Hr) (hTp : jp.filterMap (Ts[·]?) = Tp) (hTr : jr.filterMap (Ts[·]?) = Tr)
    (hl : ∀ v, (putL N dst v L).bind (pickL live) = some (Lf v))
    (hc : Sp P f args (ap Hp Tp) (ap Hr Tr ++ F) (fun v H' => ∃ x, H' = ap (Hq x) (Tq x) ∧ Rv v x)) (hk : ∀ v x, Rv v x → TL r P N D F w0 ops (i + 1) (Lf v) (ap (Hq x ++ Hr) (Tq x ++ Tr)) Q) : TL r P N D F w0 ops i L H Q := by
  refine TL.call_gen (fun n0 => callE_spec (h n0)) hR hob (Hp := ap Hp Tp) (Hr := ap Hr Tr) ?_ hc ?_
  · have h1 := ap_perm A Ts ip ir jp jr hp hj
    rw [hHp, hHr, hTp, hTr] at h1
    exact h1
  · rintro v H' ⟨x, rfl, hv⟩
    have h1 := hl v
    rw [Option.bind_eq_some_iff] at h1
    obtain ⟨L', h2, h3⟩ := h1
    refine ⟨L', h2, fun a w hF hR hB => hk v x hv a w (hF.pick h3) (hR.perm ?_) hB⟩
    rw [List.append_assoc (ap (Hq x) (Tq x))]
    exact (ap_swap _ _ _ _ _).symm
/-! ### a cut: ways that meet again -/
def MET {σ : Type} (N : Nat) (D : List Deferred) (F : HL) (w0 : World) (Lx : σ → FL) (Hx : σ → HL) (I : σ → Prop) (a : Act) (w : World) : Prop :=
  ∃ x, I x ∧ Fm N D (Lx x) a ∧ Rel (Hx x ++ F) w ∧ Below 0 w0 w
theorem TR.cut {σ : Type} (Lx : σ → FL) (Hx : σ → HL) (I : σ → Prop) {x y : Code} (h : TR r P N D F w0 L H x (Exit.then (MET N D F w0 Lx Hx I) Q)) (hk : ∀ s, I s → TR r P N D F w0 (Lx s) (Hx s) y Q) : TR r P N D F w0 L H (.seq x y) Q :=
  TR.seq fun a w h1 h2 h3 => wpIn_mono (h a w h1 h2 h3) (fun e a w q => by
    cases e <;> first
      | exact q
      | (obtain ⟨s, hi, k1, k2, k3⟩ := q; exact hk s hi a w k1 k2 k3))
theorem EX.meet {σ : Type} {Lx : σ → FL} {Hx : σ → HL} {I : σ → Prop} {Q' : Exit → Act → World → Prop} (s : σ) (hi : I s) (keys : List Nat) (hL : pickL keys L = some (Lx s)) {A : HL} {Ts : List HL} (ip ir jp jr : List Nat) (hp : (ip ++ ir).isPerm (List.range A.length) = true) (hj : (jp ++ jr).isPerm (List.range Ts.length) = true) (hH : ap (ip.filterMap (A[·]?)) (jp.filterMap (Ts[·]?)) = Hx s) : EX N D F w0 L (ap A Ts) (Exit.then (MET N D F w0 Lx Hx I) Q') .normal :=
  fun a w h1 h2 h3 => ⟨s, hi, h1.pick hL, h2.takeT ip ir jp jr hp hj hH, h3⟩
/-! ### loops -/
theorem TR.loop {σ : Type} (Lx : σ → FL) (Hx : σ → HL) (I : σ → Prop) (μ : σ → Nat) {c : Code} (x0 : σ) (hi : I x0) (keys : List Nat) (hL : pickL keys L = some (Lx x0)) {A : HL} {Ts : List HL} (ip ir jp jr : List Nat) (hp : (ip ++ ir).isPerm (List.range A.length) = true) (hj : (jp ++ jr).isPerm (List.range Ts.length) = true) (hH : ap (ip.filterMap (A[·]?)) (jp.filterMap (Ts[·]?)) = Hx x0)
    (round : ∀ x, I x → TR r P N D F w0 (Lx x) (Hx x) c (Exit.then (MET N D F w0 Lx Hx (fun x' => I x' ∧ μ x' < μ x)) Q)) : TR r P N D F w0 L (ap A Ts) (.loop c) Q := by
  intro a w h1 h2 h3
  replace h2 := h2.takeT ip ir jp jr hp hj hH
  -- the measure as a number that the frame and the world bear: the least of those that fit
  have key : ∀ n x, μ x ≤ n → I x → ∀ a w, Fm N D (Lx x) a → Rel (Hx x ++ F) w → Below 0 w0 w → ∀ (b : Frame) (k : List Item) (cs : List Frame),
      b.roundOf = (Wr r).round → (Wr r).fn b.fn → (Wr r).room (cs.length + 1 + 0) → ∃ e a' w', Q e a' w' ∧ ArrivesIn (Machine.fenced P (Wr r)) P (lone (b.atR a (.code c :: .inLoop c :: k)) cs w) b k cs e a' w' := by
    intro n
    induction n using Nat.strongRecOn with
    | _ n ih =>
      intro x hn hI a w k1 k2 k3 b k cs hro hb hr
      obtain ⟨e, a₁, w₁, hq, harr⟩ := round x hI a w k1 k2 k3 b (.inLoop c :: k) cs hro hb hr
      cases e with
      | normal =>
        obtain ⟨x', ⟨hI', hlt⟩, m1, m2, m3⟩ := hq
        obtain ⟨e₂, a₂, w₂, hq₂, harr₂⟩ := ih (μ x') (by omega) x' (Nat.le_refl _) hI' a₁ w₁ m1 m2 m3 b k cs hro hb hr
        exact ⟨e₂, a₂, w₂, hq₂, .of_steps (StepsIn.trans harr (.one (fenced_calm hb hr rfl) stepR_inLoop)) harr₂⟩
      | exit id => exact ⟨_, a₁, w₁, hq, .pass (x := .inLoop c) rfl (fun _ _ => .inl (by simp)) harr⟩
      | goto l => exact ⟨_, a₁, w₁, hq, .pass (x := .inLoop c) rfl (fun _ _ => .inl (by simp)) harr⟩
      | ret => exact ⟨_, a₁, w₁, hq, .pass (x := .inLoop c) rfl (fun _ _ => .inl (by simp)) harr⟩
      | panic ch => exact ⟨_, a₁, w₁, hq, .pass (x := .inLoop c) rfl (fun _ _ => .inl (by simp)) harr⟩
      | outgrown => exact ⟨_, a₁, w₁, hq, .pass (x := .inLoop c) rfl (fun _ _ => .inl (by simp)) harr⟩
  intro b k cs hro hb hr
  obtain ⟨e, a', w', hq, harr⟩ := key _ x0 (Nat.le_refl _) hi a w (h1.pick hL) h2 h3 b k cs hro hb hr
  exact ⟨e, a', w', hq, .of_steps (.one (fenced_calm hb hr rfl) stepR_loop) harr⟩

/-! ### functions -/
def SpR (F : HL) (w0 : World) (R : Value → HL → Prop) (e : Ending) (w' : World) : Prop := ∃ v H', e = .returned v ∧ R v H' ∧ Rel (H' ++ F) w' ∧ Below 0 w0 w'
def initL : Nat → List Value → FL
  | _, [] => []
  | n, v :: l => (n, v) :: initL (n + 1) l
theorem initL_lookup : ∀ (n : Nat) (l : List Value) (t : Nat) (v : Value), (initL n l).lookup t = some v → n ≤ t ∧ l[t - n]? = some v
  | _, [], _, _, h => by cases h
  | n, u :: l, t, v, h => by
    rw [initL, List.lookup_cons] at h
    by_cases e : t = n
    · subst e; simp at h; subst h; simp
    · have : (t == n) = false := by simpa using e
      rw [this] at h
      obtain ⟨h1, h2⟩ := initL_lookup (n + 1) l t v h
      refine ⟨by omega, ?_⟩
      have : t - n = (t - (n + 1)) + 1 := by omega
      rw [this]; simpa using h2
theorem Sp.of_body {f : FuncId} {fn : Func} {c : Code} {args : Array Value} {R : Value → HL → Prop} (hf : P.funcs[f]? = some fn) (hb : fn.body = some c) (hn : fn.ntmps = N) (ha : decide (args.size ≤ N) = true)
    (L : FL) (hL : initL 0 args.toList = L) (h : ∀ w0, TR none P N [] F w0 L H c (bodyPost P fn (SpR F w0 R))) : Sp P f args H F R := by
  intro w hR
  refine calls_of_wp hf hb ((wpIn_wide (n := 0)).1 ?_)
  have ha' : args.size ≤ N := of_decide_eq_true ha
  refine h w _ w ⟨?_, rfl, ?_⟩ hR (Below.refl _ _)
  · simp [hn]; omega
  · subst hL
    intro t v ht
    obtain ⟨_, h2⟩ := initL_lookup 0 _ t v ht
    have h3 : args[t]? = some v := by simpa using h2
    have hlt : t < args.size := (Array.getElem?_eq_some_iff.1 h3).1
    simp only
    rw [Array.getElem?_append_left hlt]
    exact h3
/-- what is handed back -/
def resL (P : Program) (n0 : Nat) (L : FL) : List ResultVar → SS → Option (List Value × SS)
  | [], s => some ([], s)
  | .tmp t :: l, s => match L.lookup t with
    | some v => match resL P n0 L l s with
      | some (vs, s) => some (v :: vs, s)
      | none => none
    | none => none
  | .cell t ty :: l, s => match L.lookup t with
    | some (.pointer (some a)) => match arun P n0 (loadVar ty a) s with
      | some (v, s) => match resL P n0 L l s with
        | some (vs, s) => some (v :: vs, s)
        | none => none
      | none => none
    | _ => none
def tup : List Value → Value
  | [v] => v
  | vs => .tuple ⟨vs⟩
def resE (P : Program) (n0 : Nat) (L : FL) (rs : List ResultVar) (H R : HL) (hints : List Hint) : Option (Value × List Nat × List Nat × List Prop) :=
  match resL P n0 L rs ⟨H, R, hints, 0, [], [], false⟩ with
  | some (vs, s) => match s.hints with
    | [] => some (tup vs, s.eq.map (·.1), s.eq.map (·.2), s.ob)
    | _ => none
  | none => none
theorem resL_keeps {n0 : Nat} : ∀ (rs : List ResultVar) (s s' : SS) (vs : List Value), resL P n0 L rs s = some (vs, s') → (∀ p ∈ s.eq, p ∈ s'.eq) ∧ (∀ p ∈ s.ob, p ∈ s'.ob)
  | [], s, s', vs, h => by rw [resL] at h; cases h; exact ⟨fun _ h => h, fun _ h => h⟩
  | .tmp t :: l, s, s', vs, h => by
    rw [resL] at h
    split at h
    · split at h
      · rename_i hr
        cases h
        exact resL_keeps l _ _ _ hr
      · cases h
    · cases h
  | .cell t ty :: l, s, s', vs, h => by
    rw [resL] at h
    split at h
    · split at h
      · rename_i ha
        split at h
        · rename_i hr
          cases h
          obtain ⟨a1, a2, _⟩ := arun_keeps _ _ _ _ ha
          obtain ⟨b1, b2⟩ := resL_keeps l _ _ _ hr
          exact ⟨fun p hp => b1 p (a1 p hp), fun p hp => b2 p (a2 p hp)⟩
        · cases h
      · cases h
    · cases h
def resG (tmps : Array Value) : ResultVar → Sem Value
  | .tmp t => pure (tmps.getD t undef)
  | .cell a t => do loadVar t (← asAddr (tmps.getD a undef))
theorem resL_run {n0 : Nat} {a : Act} {w : World} (hF : Fm N D L a) (hR : Rel (H ++ F) w) : ∀ (rs : List ResultVar) (s s' : SS) (vs : List Value), resL P n0 L rs s = some (vs, s') → s.wr = false → s.h = H → (∀ y ∈ s.r, y ∈ F) → (s.wr = true → n0 + s.cnt = w.heap.size) →
    (∀ p ∈ s'.eq, p.1 = p.2) → (∀ p ∈ s'.ob, p) → (rs.mapM (resG a.tmps)).run P w = .ok vs w
  | [], s, s', vs, h, _, _, _, _, _, _ => by rw [resL] at h; cases h; rfl
  | .tmp t :: l, s, s', vs, h, hw, hh, hr, hn, heq, hob => by
    rw [resL] at h
    split at h
    · rename_i v hv
      split at h
      · rename_i vs' s1 hr1
        cases h
        have ih := resL_run hF hR l _ _ _ hr1 hw hh hr hn heq hob
        rw [List.mapM_cons, Sem.run_bind]
        simp [resG, hF.has _ _ hv, Sem.run_bind, ih]
      · cases h
    · cases h
  | .cell t ty :: l, s, s', vs, h, hw, hh, hr, hn, heq, hob => by
    rw [resL] at h
    split at h
    · rename_i ad hv
      split at h
      · rename_i v s1 ha
        split at h
        · rename_i vs' s2 hr1
          cases h
          obtain ⟨a1, a2, a3, a4⟩ := arun_keeps _ _ _ _ ha
          obtain ⟨b1, b2⟩ := resL_keeps l _ _ _ hr1
          obtain ⟨w1, e1, e2, e3, e4, e5⟩ := arun_sound (F := F) _ _ _ _ w ha (fun p hp => heq p (b1 p hp)) (fun p hp => hob p (b2 p hp)) (by rw [hh]; exact hR) hr hn
          obtain rfl := e5 hw
          have hh1 : s1.h = H := by rw [arun_ro _ _ _ _ ha hw]; exact hh
          have ih := resL_run hF hR l _ _ _ hr1 (a4.trans hw) hh1 (by rw [a3]; exact hr) (fun e => e4 (a4.symm.trans e)) heq hob
          rw [List.mapM_cons, Sem.run_bind]
          simp [resG, hF.has _ _ hv, Sem.run_bind, asAddr, e1, ih]
        · cases h
      · cases h
    · cases h
theorem results_run {fn : Func} {rs : List ResultVar} (hrs : fn.results = ⟨rs⟩) {tmps : Array Value} {w : World} {vs : List Value} (h : (rs.mapM (resG tmps)).run P w = .ok vs w) : (results fn tmps).run P w = .ok (tup vs) w := by
  have h1 : (results fn tmps) = (do let vs ← (⟨rs⟩ : Array ResultVar).mapM (resG tmps); pure (if h : vs.size = 1 then vs[0] else .tuple vs)) := by
    unfold results
    rw [hrs]
    congr 1
  rw [h1]
  have h2 : (⟨rs⟩ : Array ResultVar).mapM (resG tmps) = List.toArray <$> rs.mapM (resG tmps) := by simp
  rw [h2]
  have h3 : ((List.toArray <$> rs.mapM (resG tmps)) : Sem (Array Value)).run P w = .ok ⟨vs⟩ w := by
    rw [map_eq_pure_bind, Sem.run_bind, h]; rfl
  rw [Sem.run_bind, h3]
  match vs with
  | [] => rfl
  | [v] => rfl
  | v :: u :: l => simp [tup]
theorem TR.ret {fn : Func} {R : Value → HL → Prop} (hQ : ∀ a w, bodyPost P fn (SpR F w0 R) .ret a w → Q .ret a w) {rs : List ResultVar} (hrs : fn.results = ⟨rs⟩) (hD : D = []) (Ro : HL) (hints : List Hint) (v : Value) (E : List Nat) (Ob : List Prop)
    {A : HL} {Ts : List HL} (h : ∀ n0, resE P n0 L rs (ap A Ts) Ro hints = some (v, E, E, Ob)) (hRo : ∀ y ∈ Ro, y ∈ F) (hob : AllP Ob) (ip ir jp jr : List Nat) (H' : HL) (hp : (ip ++ ir).isPerm (List.range A.length) = true) (hj : (jp ++ jr).isPerm (List.range Ts.length) = true) (hH : ap (ip.filterMap (A[·]?)) (jp.filterMap (Ts[·]?)) = H') (hv : R v H') : TR r P N D F w0 L (ap A Ts) .ret Q := by
  refine TR.retx ?_
  intro a w hF hR hB
  refine hQ a w ?_
  have h' := h w.heap.size
  unfold resE at h'
  split at h'
  case h_2 => cases h'
  rename_i vs s hs
  split at h'
  case h_2 => cases h'
  simp only [Option.some.injEq, Prod.mk.injEq] at h'
  obtain ⟨e1, e2, e3, e4⟩ := h'
  have hrun := resL_run (P := P) hF hR rs _ _ _ hs rfl rfl hRo (fun e => by cases e) (pairs_eq e2 e3) (by rw [e4]; exact AllP.mem hob)
  subst e1
  exact ⟨hF.defs.trans hD, _, results_run hrs hrun, _, H', rfl, hv, hR.takeT ip ir jp jr hp hj hH, hB⟩
theorem Sp.of_calls {f : FuncId} {args : Array Value} {v : Value} (h : ∀ w, Calls P f args w fun e w' => e = .returned v ∧ w' = w) (F : HL) : Sp P f args [] F (fun u H' => u = v ∧ H' = []) := fun w hR =>
  (h w).mono fun e w' ⟨h1, h2⟩ => ⟨v, [], h1, ⟨rfl, rfl⟩, by rw [h2]; exact hR, by rw [h2]; exact Below.refl _ _⟩
theorem EX.fin {fn : Func} {R : Value → HL → Prop} {rs : List ResultVar} (hrs : fn.results = ⟨rs⟩) (hD : D = []) (Ro : HL) (hints : List Hint) (v : Value) (E : List Nat) (Ob : List Prop)
    {A : HL} {Ts : List HL} (h : ∀ n0, resE P n0 L rs (ap A Ts) Ro hints = some (v, E, E, Ob)) (hRo : ∀ y ∈ Ro, y ∈ F) (hob : AllP Ob) (ip ir jp jr : List Nat) (H' : HL) (hp : (ip ++ ir).isPerm (List.range A.length) = true) (hj : (jp ++ jr).isPerm (List.range Ts.length) = true) (hH : ap (ip.filterMap (A[·]?)) (jp.filterMap (Ts[·]?)) = H') (hv : R v H') : EX N D F w0 L (ap A Ts) (bodyPost P fn (SpR F w0 R)) .normal := by
  intro a w hF hR hB
  have h' := h w.heap.size
  unfold resE at h'
  split at h'
  case h_2 => cases h'
  rename_i vs s hs
  split at h'
  case h_2 => cases h'
  simp only [Option.some.injEq, Prod.mk.injEq] at h'
  obtain ⟨e1, e2, e3, e4⟩ := h'
  have hrun := resL_run (P := P) hF hR rs _ _ _ hs rfl rfl hRo (fun e => by cases e) (pairs_eq e2 e3) (by rw [e4]; exact AllP.mem hob)
  subst e1
  exact ⟨hF.defs.trans hD, _, results_run hrs hrun, _, H', rfl, hv, hR.takeT ip ir jp jr hp hj hH, hB⟩
end
end Go.Proofs.YtlefngomddjahaaGreatDoor
