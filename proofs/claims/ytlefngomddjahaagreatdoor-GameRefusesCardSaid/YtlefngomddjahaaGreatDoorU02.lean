/- Runs of operations; the rules for code; contracts. -/
import Derived.Test.YtlefngomddjahaaGreatDoorU01
import Derived.TacticsIn
import Derived.RangeFuncIn
namespace Go.Proofs.YtlefngomddjahaaGreatDoor
set_option linter.unusedSimpArgs false
set_option linter.unusedVariables false
open Go.RowKit

def wantL (ops : List Oper) (o : Oper) (L : FL) (s : SS) : Option (Bool × SS) := match o.guard with
  | none => some (true, s)
  | some (j, want) => match (ops[j]?).bind (·.dst) with
    | some d => match L.lookup d with
      | some (.bool b) => match s.hints with
        | .gd c :: hs => some (c == want, { s with hints := hs, ob := (b = c) :: s.ob })
        | .gen :: hs => some (b == want, { s with hints := hs })
        | _ => some (b == want, s)
      | some (.tuple _) => some (false, s)
      | _ => none
    | none => none
theorem wantL_sound {N : Nat} {D : List Deferred} {ops : Array Oper} {o : Oper} {L : FL} {s s' : SS} {b : Bool} {a : Act} (h : wantL ops.toList o L s = some (b, s')) (hF : Fm N D L a) (hob : ∀ p ∈ s'.ob, p) :
    Region.wanted o (yielded ops a.tmps) = b ∧ s'.h = s.h ∧ s'.cnt = s.cnt := by
  unfold wantL at h
  unfold Region.wanted
  split at h
  · rename_i hg
    cases h
    rw [hg]; exact ⟨rfl, rfl, rfl⟩
  · rename_i j want hg
    rw [hg]
    simp only
    split at h
    case h_2 => cases h
    rename_i d hd
    have hd' : (ops[j]?).bind (·.dst) = some d := by simpa using hd
    split at h
    · rename_i x hx
      have hy : yielded ops a.tmps j = some x := by unfold yielded; rw [hd']; simp [hF.has _ _ hx]
      split at h
      · cases h
        have := hob _ (List.mem_cons_self)
        subst this
        rw [hy]; exact ⟨by simp, rfl, rfl⟩
      · cases h
        rw [hy]; exact ⟨by simp, rfl, rfl⟩
      · cases h
        rw [hy]; exact ⟨by simp, rfl, rfl⟩
    · rename_i x hx
      cases h
      have hy : yielded ops a.tmps j = none := by unfold yielded; rw [hd']; simp [hF.has _ _ hx]
      rw [hy]; exact ⟨rfl, rfl, rfl⟩
    · cases h
theorem wantL_keeps {ops : List Oper} {o : Oper} {L : FL} {s s' : SS} {b : Bool} (h : wantL ops o L s = some (b, s')) : (∀ p ∈ s.eq, p ∈ s'.eq) ∧ (∀ p ∈ s.ob, p ∈ s'.ob) ∧ s'.r = s.r ∧ s'.wr = s.wr := by
  unfold wantL at h
  repeat' split at h
  all_goals first
    | (cases h; done)
    | (cases h; exact ⟨fun _ h => h, fun _ h => h, rfl, rfl⟩)
    | (cases h; exact ⟨fun _ h => h, fun _ h => List.mem_cons_of_mem _ h, rfl, rfl⟩)

def seg (P : Program) (n0 N : Nat) (ops : List Oper) : List Oper → FL → SS → Option (FL × SS)
  | [], L, s => some (L, s)
  | o :: rest, L, s => match wantL ops o L s with
    | none => none
    | some (false, s) => match putL N o.dst undef L with
      | some L => seg P n0 N ops rest L s
      | none => none
    | some (true, s) => match okOps o.op L with
      | false => none
      | true => match ev P n0 o (rho L) s with
        | some (.value v, s) => match putL N o.dst v L with
          | some L => seg P n0 N ops rest L s
          | none => none
        | some (.skip, s) => match putL N o.dst undef L with
          | some L => seg P n0 N ops rest L s
          | none => none
        | _ => none
theorem seg_keeps {P : Program} {n0 N : Nat} {ops : List Oper} : ∀ (l : List Oper) (L L' : FL) (s s' : SS), seg P n0 N ops l L s = some (L', s') → (∀ p ∈ s.eq, p ∈ s'.eq) ∧ (∀ p ∈ s.ob, p ∈ s'.ob) ∧ s'.r = s.r
  | [], L, L', s, s', h => by rw [seg] at h; cases h; exact ⟨fun _ h => h, fun _ h => h, rfl⟩
  | o :: rest, L, L', s, s', h => by
    rw [seg] at h
    split at h
    · cases h
    · rename_i s1 hw
      split at h
      case h_2 => cases h
      obtain ⟨a1, a2, a3, a4⟩ := wantL_keeps hw
      obtain ⟨b1, b2, b3⟩ := seg_keeps rest _ _ _ _ h
      exact ⟨fun p hp => b1 p (a1 p hp), fun p hp => b2 p (a2 p hp), b3.trans a3⟩
    · rename_i s1 hw
      split at h
      · cases h
      obtain ⟨a1, a2, a3, a4⟩ := wantL_keeps hw
      split at h
      · rename_i v s2 he
        split at h
        case h_2 => cases h
        obtain ⟨c1, c2, c3, c4⟩ := ev_keeps he
        obtain ⟨b1, b2, b3⟩ := seg_keeps rest _ _ _ _ h
        exact ⟨fun p hp => b1 p (c1 p (a1 p hp)), fun p hp => b2 p (c2 p (a2 p hp)), b3.trans (c3.trans a3)⟩
      · rename_i s2 he
        split at h
        case h_2 => cases h
        obtain ⟨c1, c2, c3, c4⟩ := ev_keeps he
        obtain ⟨b1, b2, b3⟩ := seg_keeps rest _ _ _ _ h
        exact ⟨fun p hp => b1 p (c1 p (a1 p hp)), fun p hp => b2 p (c2 p (a2 p hp)), b3.trans (c3.trans a3)⟩
      · cases h
/-- everything is let; within the round of a loop, or not -/
def Wr (r : Option Nat) : Fence := { fn := fun _ => True, depth := none, alive := false, round := r }
theorem Wr.calls {r : Option Nat} {n : Nat} {P : Program} {f : FuncId} {args : Array Value} {w : World} {R : Ending → World → Prop} (h : Calls P f args w R) : CallsIn (Wr r) n P f args w R := (callsIn_wide (n := n)).2 h
theorem okOps_plain {o : Op} {L : FL} (h : okOps o L = true) : ∀ c, o ≠ .defer c := by
  rintro c rfl
  simp [okOps, opsOf] at h
theorem Fm.sem {r : Option Nat} {N : Nat} {D : List Deferred} {L : FL} {a : Act} (h : Fm N D L a) {o : Oper} (ho : okOps o.op L = true) : o.semAt (Wr r).round a.eval = execOp (rho L) o := by
  rw [Oper.semAt_eq _ _ _ (okOps_plain ho), h.exec ho]
theorem seg_sound {r : Option Nat} {P : Program} {n0 N : Nat} {D : List Deferred} {F : HL} {ops : Array Oper} {Q : Exit → Act → World → Prop} {rest : List Oper} : ∀ (l : List Oper) (L L' : FL) (s s' : SS) (a : Act) (w : World),
    seg P n0 N ops.toList l L s = some (L', s') → (∀ p ∈ s'.eq, p.1 = p.2) → (∀ p ∈ s'.ob, p) → Fm N D L a → Rel (s.h ++ F) w → (∀ y ∈ s.r, y ∈ F) → (s.wr = true → n0 + s.cnt = w.heap.size) →
    (∀ a' w', Fm N D L' a' → Rel (s'.h ++ F) w' → Below 0 w w' → wpListIn (Wr r) 0 P ops Q rest a' w') → wpListIn (Wr r) 0 P ops Q (l ++ rest) a w
  | [], L, L', s, s', a, w, h, _, _, hF, hR, _, _, hk => by
    rw [seg] at h; cases h
    exact hk a w hF hR (Below.refl _ _)
  | o :: l, L, L', s, s', a, w, h, heq, hob, hF, hR, hr, hn, hk => by
    rw [seg] at h
    rw [List.cons_append, wpListIn]
    split at h
    · cases h
    · rename_i s1 hw
      split at h
      case h_2 => cases h
      rename_i L1 hp
      obtain ⟨b1, b2, b3⟩ := seg_keeps _ _ _ _ _ h
      obtain ⟨a1, a2, a3, a4⟩ := wantL_keeps hw
      obtain ⟨c1, c2, c3⟩ := wantL_sound hw hF (fun p hp => hob p (b2 p hp))
      rw [if_neg (by rw [c1]; simp)]
      refine ⟨fun _ _ => trivial, ?_⟩
      exact seg_sound l L1 L' s1 s' _ w h heq hob (hF.put hp) (by rw [c2]; exact hR) (by rw [a3]; exact hr) (fun e => by rw [c3]; exact hn (a4.symm.trans e)) hk
    · rename_i s1 hw
      split at h
      · cases h
      rename_i hok
      obtain ⟨a1, a2, a3, a4⟩ := wantL_keeps hw
      split at h
      · rename_i v s2 he
        split at h
        case h_2 => cases h
        rename_i L1 hp
        obtain ⟨b1, b2, b3⟩ := seg_keeps _ _ _ _ _ h
        obtain ⟨d1, d2, d3, d4⟩ := ev_keeps he
        obtain ⟨c1, c2, c3⟩ := wantL_sound hw hF (fun p hp => hob p (b2 p (d2 p hp)))
        obtain ⟨w1, e1, e2, e3, e4, -⟩ := ev_sound (w := w) he (fun p hp => heq p (b1 p hp)) (fun p hp => hob p (b2 p hp)) (by rw [c2]; exact hR) (by rw [a3]; exact hr) (fun e => by rw [c3]; exact hn (a4.symm.trans e))
        rw [if_pos c1]
        refine ⟨fun _ _ => trivial, ?_⟩
        rw [hF.sem hok, e1, Oper.uponIn_value]
        exact seg_sound l L1 L' s2 s' _ w1 h heq hob (hF.put hp) e2 (by rw [d3, a3]; exact hr) (fun e => e4 (d4.symm.trans e)) (fun a' w' h1 h2 h3 => hk a' w' h1 h2 (e3.trans h3))
      · rename_i s2 he
        split at h
        case h_2 => cases h
        rename_i L1 hp
        obtain ⟨b1, b2, b3⟩ := seg_keeps _ _ _ _ _ h
        obtain ⟨d1, d2, d3, d4⟩ := ev_keeps he
        obtain ⟨c1, c2, c3⟩ := wantL_sound hw hF (fun p hp => hob p (b2 p (d2 p hp)))
        obtain ⟨w1, e1, e2, e3, e4, -⟩ := ev_sound (w := w) he (fun p hp => heq p (b1 p hp)) (fun p hp => hob p (b2 p hp)) (by rw [c2]; exact hR) (by rw [a3]; exact hr) (fun e => by rw [c3]; exact hn (a4.symm.trans e))
        rw [if_pos c1]
        refine ⟨fun _ _ => trivial, ?_⟩
        rw [hF.sem hok, e1, Oper.uponIn_skip]
        exact seg_sound l L1 L' s2 s' _ w1 h heq hob (hF.put hp) e2 (by rw [d3, a3]; exact hr) (fun e => e4 (d4.symm.trans e)) (fun a' w' h1 h2 h3 => hk a' w' h1 h2 (e3.trans h3))
      · cases h

/-! ### the rules -/
def AllP : List Prop → Prop
  | [] => True
  | p :: l => p ∧ AllP l
theorem AllP.mem : ∀ {l : List Prop}, AllP l → ∀ p ∈ l, p
  | _ :: _, h, p, hp => by
    rcases List.mem_cons.1 hp with rfl | hp
    · exact h.1
    · exact AllP.mem h.2 p hp
/-- what holds of a region's rest, at whatever frame and world that fit -/
def TL (r : Option Nat) (P : Program) (N : Nat) (D : List Deferred) (F : HL) (w0 : World) (ops : Array Oper) (i : Nat) (L : FL) (H : HL) (Q : Exit → Act → World → Prop) : Prop :=
  ∀ a w, Fm N D L a → Rel (H ++ F) w → Below 0 w0 w → wpListIn (Wr r) 0 P ops Q (ops.toList.drop i) a w
def TR (r : Option Nat) (P : Program) (N : Nat) (D : List Deferred) (F : HL) (w0 : World) (L : FL) (H : HL) (c : Code) (Q : Exit → Act → World → Prop) : Prop :=
  ∀ a w, Fm N D L a → Rel (H ++ F) w → Below 0 w0 w → c.wpIn (Wr r) 0 P Q a w
def EX (N : Nat) (D : List Deferred) (F : HL) (w0 : World) (L : FL) (H : HL) (Q : Exit → Act → World → Prop) (e : Exit) : Prop :=
  ∀ a w, Fm N D L a → Rel (H ++ F) w → Below 0 w0 w → Q e a w

def segE (P : Program) (n0 N : Nat) (ops : List Oper) (i k : Nat) (L : FL) (H R : HL) (hints : List Hint) (live : List Nat) : Option (FL × HL × List Nat × List Nat × List Prop) :=
  match seg P n0 N ops ((ops.drop i).take k) L ⟨H, R, hints, 0, [], [], true⟩ with
  | some (L', s) => match s.hints, pickL live L' with
    | [], some Lo => some (Lo, s.h, s.eq.map (·.1), s.eq.map (·.2), s.ob)
    | _, _ => none
  | none => none
theorem pairs_eq : ∀ {l : List (Nat × Nat)} {E : List Nat}, l.map (·.1) = E → l.map (·.2) = E → ∀ p ∈ l, p.1 = p.2
  | [], _, _, _, p, hp => by cases hp
  | q :: l, E, h1, h2, p, hp => by
    subst h1
    simp only [List.map_cons, List.cons.injEq] at h2
    rcases List.mem_cons.1 hp with rfl | hp
    · exact h2.1.symm
    · exact pairs_eq rfl h2.2 p hp

section
variable {r : Option Nat} {P : Program} {N : Nat} {D : List Deferred} {F : HL} {w0 : World} {ops : Array Oper} {i : Nat} {L : FL} {H : HL} {Q : Exit → Act → World → Prop}

theorem TL.seg (k : Nat) (R : HL) (hints : List Hint) (live : List Nat) (Lo : Nat → FL) (Ho : Nat → HL) (E : Nat → List Nat) (Ob : Nat → List Prop)
    (h : ∀ n0, segE P n0 N ops.toList i k L H R hints live = some (Lo n0, Ho n0, E n0, E n0, Ob n0)) (hR : ∀ y ∈ R, y ∈ F) (hob : ∀ n0, AllP (Ob n0))
    (hk : ∀ n0, TL r P N D F w0 ops (i + k) (Lo n0) (Ho n0) Q) : TL r P N D F w0 ops i L H Q := by
  intro a w hF hRel hB
  have h' := h w.heap.size
  unfold segE at h'
  split at h'
  case h_2 => cases h'
  rename_i L' s hs
  split at h'
  case h_2 => cases h'
  rename_i hh hp
  simp only [Option.some.injEq, Prod.mk.injEq] at h'
  obtain ⟨e1, e2, e3, e4, e5⟩ := h'
  rw [e1] at hp
  rw [← List.take_append_drop k (ops.toList.drop i), List.drop_drop]
  refine seg_sound _ _ _ _ _ a w hs (pairs_eq e3 e4) (by rw [e5]; exact AllP.mem (hob _)) hF hRel hR (fun _ => rfl) ?_
  intro a' w' h1 h2 h3
  exact hk w.heap.size a' w' (h1.pick hp) (by rw [← e2]; exact h2) (hB.trans h3)

/-- no block is made -/
theorem TL.seg0 (k : Nat) (R : HL) (hints : List Hint) (live : List Nat) (Lo : FL) (Ho : HL) (E : List Nat) (Ob : List Prop)
    (h : ∀ n0, segE P n0 N ops.toList i k L H R hints live = some (Lo, Ho, E, E, Ob)) (hR : ∀ y ∈ R, y ∈ F) (hob : AllP Ob)
    (hk : TL r P N D F w0 ops (i + k) Lo Ho Q) : TL r P N D F w0 ops i L H Q :=
  TL.seg k R hints live (fun _ => Lo) (fun _ => Ho) (fun _ => E) (fun _ => Ob) h hR (fun _ => hob) (fun _ => hk)
theorem TL.fin (hi : (ops.toList.drop i) = []) (h : EX N D F w0 L H Q .normal) : TL r P N D F w0 ops i L H Q := by
  intro a w hF hR hB
  rw [hi]
  exact h a w hF hR hB

/-! ### contracts -/
def Sp (P : Program) (f : FuncId) (args : Array Value) (H F : HL) (R : Value → HL → Prop) : Prop :=
  ∀ w, Rel (H ++ F) w → Calls P f args w fun e w' => ∃ v H', e = .returned v ∧ R v H' ∧ Rel (H' ++ F) w' ∧ Below 0 w w'
theorem Sp.mono {f : FuncId} {args : Array Value} {R R' : Value → HL → Prop} (h : Sp P f args H F R) (hr : ∀ v H', R v H' → R' v H') : Sp P f args H F R' :=
  fun w hR => (h w hR).mono fun e w' ⟨v, H', h1, h2, h3, h4⟩ => ⟨v, H', h1, hr _ _ h2, h3, h4⟩
theorem TL.call_gen {R : HL} {hints : List Hint} {dst : Option Tmp} {f : FuncId} {args : Array Value} {E : List Nat} {Ob : List Prop} {Hp Hr : HL} {Rv : Value → HL → Prop} {H1 : HL}
    (h : ∀ n0, ∃ o s s', ops.toList[i]? = some o ∧ wantL ops.toList o L ⟨H, R, hints, 0, [], [], true⟩ = some (true, s) ∧ okOps o.op L = true ∧ ev P n0 o (rho L) s = some (.enter f args, s') ∧ o.dst = dst ∧ s'.h = H1 ∧ s'.eq.map (·.1) = E ∧ s'.eq.map (·.2) = E ∧ s'.ob = Ob)
    (hR : ∀ y ∈ R, y ∈ F) (hob : AllP Ob) (hp : (Hp ++ Hr).Perm H1) (hc : Sp P f args Hp (Hr ++ F) Rv)
    (hk : ∀ v H', Rv v H' → ∃ L', putL N dst v L = some L' ∧ TL r P N D F w0 ops (i + 1) L' (H' ++ Hr) Q) : TL r P N D F w0 ops i L H Q := by
  intro a w hF hRel hB
  obtain ⟨o, s, s', ho, hw, hok, hev, hd, hh, e1, e2, e3⟩ := h w.heap.size
  have hdrop : ops.toList.drop i = o :: ops.toList.drop (i + 1) := by
    have hlt : i < ops.toList.length := (List.getElem?_eq_some_iff.1 ho).1
    rw [List.drop_eq_getElem_cons hlt, (List.getElem?_eq_some_iff.1 ho).2]
  rw [hdrop, wpListIn]
  obtain ⟨d1, d2, d3, d4⟩ := ev_keeps hev
  obtain ⟨a1, a2, a3, a4⟩ := wantL_keeps hw
  have hobs : ∀ p ∈ s'.ob, p := by rw [e3]; exact AllP.mem hob
  obtain ⟨c1, c2, c3⟩ := wantL_sound hw hF (fun p hp => hobs p (d2 p hp))
  obtain ⟨w1, r1, r2, r3, r4, -⟩ := ev_sound (w := w) (F := F) hev (pairs_eq e1 e2) hobs (by rw [c2]; exact hRel) (by rw [a3]; exact hR) (fun _ => by rw [c3]; rfl)
  rw [if_pos c1]
  refine ⟨fun _ _ => trivial, ?_⟩
  rw [hF.sem hok, r1, Oper.uponIn_enter]
  refine ⟨fun h => (by cases h), ?_⟩
  rw [hh] at r2
  have r2' : Rel (Hp ++ (Hr ++ F)) w1 := by rw [← List.append_assoc]; exact r2.perm (hp.append_right F)
  refine Wr.calls ((hc w1 r2').mono ?_)
  rintro e w2 ⟨v, H', rfl, hv, hR2, hB2⟩
  obtain ⟨L', hl, ht⟩ := hk v H' hv
  rw [hd]
  exact ht _ w2 (hF.put hl) (by rw [List.append_assoc]; exact hR2) (hB.trans (r3.trans hB2))
end
end Go.Proofs.YtlefngomddjahaaGreatDoor
