/- Rounds counted out, blocks written otherwise, slices opened. -/
import Derived.Test.YtampdcgphdnnhaaGreatDoorU05
import Derived.LoopN
namespace Go.Proofs.YtampdcgphdnnhaaGreatDoor
set_option linter.unusedSimpArgs false
set_option linter.unusedVariables false
open Go.RowKit
section
variable {r : Option Nat} {P : Program} {N : Nat} {D : List Deferred} {F : HL} {w0 : World} {ops : Array Oper} {i : Nat} {L : FL} {H : HL} {Q : Exit → Act → World → Prop}
theorem TR.rounds {c : Code} (n : Nat) (h : TR none P N D F w0 L H c (Exit.then (Code.rounds P c Q n) Q)) : TR none P N D F w0 L H (.loop c) Q :=
  fun a w h1 h2 h3 => (wpIn_wide (n := 0)).2 (wp_loop_rounds (n + 1) ((wpIn_wide (n := 0)).1 (h a w h1 h2 h3)))
theorem EX.round {c : Code} {n : Nat} (h : TR none P N D F w0 L H c (Exit.then (Code.rounds P c Q n) Q)) : EX N D F w0 L H (Exit.then (Code.rounds P c Q (n + 1)) Q) .normal :=
  fun a w h1 h2 h3 => (wpIn_wide (n := 0)).1 (h a w h1 h2 h3)
def denL (H : HL) : List (Nat × Obj) := H.map fun x => (x.1, x.2.den)
theorem Rel.den {H H' : HL} {w : World} (e : denL H = denL H') (h : Rel H w) : Rel H' w := by
  have h1 : H'.map (·.1) = H.map (·.1) := by
    have := congrArg (List.map (·.1)) e
    simpa [denL, Function.comp_def] using this.symm
  refine ⟨fun x hx => ?_, by have := h.nodup; rw [h1]; exact this⟩
  have : (x.1, x.2.den) ∈ denL H := e ▸ List.mem_map_of_mem hx
  obtain ⟨y, hy, e2⟩ := List.mem_map.1 this
  have h3 := h.holds y hy
  simp only [Prod.mk.injEq] at e2
  rw [← e2.1, ← e2.2]
  exact h3
theorem Rel.denA {A A' F : HL} {Ts : List HL} {w : World} (e : denL A = denL A') (h : Rel (ap A Ts ++ F) w) : Rel (ap A' Ts ++ F) w :=
  h.den (by simp only [denL, List.map_append] at e ⊢; rw [e])
theorem TL.den {A : HL} {Ts : List HL} (A' : HL) (e : denL A = denL A') (h : TL r P N D F w0 ops i L (ap A' Ts) Q) : TL r P N D F w0 ops i L (ap A Ts) Q := fun a w h1 h2 h3 => h a w h1 (h2.denA e) h3
theorem TR.den {c : Code} {A : HL} {Ts : List HL} (A' : HL) (e : denL A = denL A') (h : TR r P N D F w0 L (ap A' Ts) c Q) : TR r P N D F w0 L (ap A Ts) c Q := fun a w h1 h2 h3 => h a w h1 (h2.denA e) h3
theorem EX.den {x : Exit} {A : HL} {Ts : List HL} (A' : HL) (e : denL A = denL A') (h : EX N D F w0 L (ap A' Ts) Q x) : EX N D F w0 L (ap A Ts) Q x := fun a w h1 h2 h3 => h a w h1 (h2.denA e) h3
end
theorem TD.tail {P : Program} {N : Nat} {D : List Deferred} {F : HL} {w0 : World} {ops : Array Oper} {hards : List Nat} {Rd : HL} {fuel : Nat} {listed : List Bool} {L : FL} {Q : Exit → Act → World → Prop} {T A : HL} {Ts : List HL} (h : TD P N D F w0 ops hards Rd fuel listed L (ap A (T :: Ts)) Q) : TD P N D F w0 ops hards Rd fuel listed L (ap (T ++ A) Ts) Q := by
  intro hcl a hF
  refine JJ.perm _ _ _ _ _ ?_ (h hcl a hF)
  show (A ++ (T :: Ts).flatten).Perm (T ++ A ++ Ts.flatten)
  rw [List.flatten_cons, ← List.append_assoc]
  exact List.Perm.append_right _ List.perm_append_comm
theorem OPJ.den {P : Program} {F : HL} {w0 : World} {ops : Array Oper} {hards : List Nat} {Rd : HL} {i : Nat} {a : Act} {H H' : HL} {K K' : Act → HL → Prop} (hK : ∀ a H1 H2, denL H1 = denL H2 → K a H1 → K' a H2) (hp : denL H = denL H') (h : OPJ P ops F w0 hards Rd i a H K) : OPJ P ops F w0 hards Rd i a H' K' := by
  have hx : ∀ X : HL, denL (X ++ H) = denL (X ++ H') := fun X => by simp only [denL, List.map_append] at hp ⊢; rw [hp]
  have hf : ∀ (A B : HL) (w : World), denL A = denL B → Rel (A ++ F) w → Rel (B ++ F) w := fun A B w e h => h.den (by simp only [denL, List.map_append] at e ⊢; rw [e])
  unfold OPJ at h ⊢
  cases ho : ops[i]? with
  | none => rw [ho] at h; exact h
  | some o =>
    rw [ho] at h
    simp only at h ⊢
    split
    · rename_i hw
      rw [if_pos hw] at h
      intro w hR hB
      refine gives_mono (h w (hf _ _ _ hp.symm hR) hB) ?_
      rintro u w' ⟨H1, ⟨s1, s2⟩, k1, k2, k3⟩
      by_cases hi : i ∈ hards
      · exact ⟨H1, ⟨fun e => absurd hi e, s2⟩, hK _ _ _ rfl k1, k2, k3⟩
      · obtain ⟨X, rfl⟩ := s1 hi
        exact ⟨X ++ H', ⟨fun _ => ⟨X, rfl⟩, fun e => absurd e hi⟩, hK _ _ _ (hx X) k1, hf _ _ _ (hx X) k2, k3⟩
    · rename_i hw
      rw [if_neg hw] at h
      exact hK _ _ _ hp h
theorem JJ.den {P : Program} {F : HL} {w0 : World} {ops : Array Oper} {Q : Exit → Act → World → Prop} {hards : List Nat} {Rd : HL} : ∀ (fuel : Nat) (listed : Array Bool) (a : Act) (H H' : HL), denL H = denL H' → JJ P ops Q F w0 hards Rd fuel listed a H → JJ P ops Q F w0 hards Rd fuel listed a H'
  | 0, listed, a, H, H', hp, h => ⟨h.1, fun w hR hB => h.2 w (hR.den (by simp only [denL, List.map_append] at hp ⊢; rw [hp])) hB⟩
  | fuel + 1, listed, a, H, H', hp, h => ⟨fun e w hR hB => h.1 e w (hR.den (by simp only [denL, List.map_append] at hp ⊢; rw [hp])) hB, fun i hi => OPJ.den (fun a H1 H2 hp h => JJ.den fuel _ a H1 H2 hp h) hp (h.2 i hi)⟩
theorem TD.den {P : Program} {N : Nat} {D : List Deferred} {F : HL} {w0 : World} {ops : Array Oper} {hards : List Nat} {Rd : HL} {fuel : Nat} {listed : List Bool} {L : FL} {Q : Exit → Act → World → Prop} {A : HL} {Ts : List HL} (A' : HL) (e : denL A = denL A') (h : TD P N D F w0 ops hards Rd fuel listed L (ap A' Ts) Q) : TD P N D F w0 ops hards Rd fuel listed L (ap A Ts) Q := by
  intro hcl a hF
  refine JJ.den _ _ _ _ _ ?_ (h hcl a hF)
  simp only [denL, List.map_append] at e ⊢
  rw [e]
theorem SlIs.open {α : Type} {e : Enc α} {T : TypeId} {l : List α} {A : Option Addr} {cap : Nat} {Hl : HL} (h : SlIs e T l A cap Hl) (hl : 0 < l.length) : ∃ b o full, A = some ⟨b, o * e.w, none⟩ ∧ Hl = [(b, .rows e.w (o + cap) (rowE e full) T (0, 0))] ∧ full.length = o + cap ∧ l.length ≤ cap ∧ ∀ i, i < l.length → full.getD (o + i) e.dflt = l.getD i e.dflt := by
  rcases h with ⟨_, _, rfl, _⟩ | ⟨b, o, full, h1, h2, h3, h4, h5⟩
  · simp at hl
  · refine ⟨b, o, full, h1, h2, h3, h4, fun i hi => ?_⟩
    have : l.getD i e.dflt = ((full.drop o).take l.length).getD i e.dflt := by rw [h5]
    rw [this]
    simp only [List.getD_eq_getElem?_getD, List.getElem?_take, List.getElem?_drop, hi, if_true]
theorem SlIs.open0 {α : Type} {e : Enc α} {T : TypeId} {l : List α} {A : Option Addr} {cap : Nat} {Hl : HL} (h : SlIs e T l A cap Hl) (hz : zeroOff A) (hw : 0 < e.w) (hl : 0 < l.length) : ∃ b rest, A = some ⟨b, 0, none⟩ ∧ Hl = [(b, .rows e.w cap (rowE e (l ++ rest)) T (0, 0))] ∧ l.length ≤ cap := by
  rcases h with ⟨_, _, rfl, _⟩ | ⟨b, o, full, rfl, rfl, h3, h4, h5⟩
  · simp at hl
  · have ho : o = 0 := by
      have h6 : o * e.w = 0 := hz
      rcases Nat.mul_eq_zero.1 h6 with h | h
      · exact h
      · omega
    subst ho
    refine ⟨b, full.drop l.length, by rw [Nat.zero_mul], ?_, h4⟩
    have : l ++ full.drop l.length = full := by
      conv => lhs; lhs; rw [← h5]
      rw [List.drop_zero, List.take_append_drop]
    rw [this, Nat.zero_add]
section
variable {r : Option Nat} {P : Program} {N : Nat} {D : List Deferred} {F : HL} {w0 : World} {ops : Array Oper} {i : Nat} {L : FL} {Q : Exit → Act → World → Prop} {A : HL} {Ts Ts' : List HL} {x : Nat × Blk}
theorem openT_perm {A : HL} {Ts Ts' : List HL} {x : Nat × Blk} (jr : List Nat) (j : Nat) (hp : ([j] ++ jr).isPerm (List.range Ts.length) = true) (hj : Ts[j]? = some [x]) (hr : jr.filterMap (Ts[·]?) = Ts') : (ap (x :: A) Ts').Perm (ap A Ts) := by
  have h3 := pick_perm Ts [j] jr hp
  simp only [List.filterMap_cons, hj, List.filterMap_nil, hr] at h3
  have h4 := h3.flatten
  simp only [List.cons_append, List.nil_append, List.flatten_cons] at h4
  show (x :: (A ++ Ts'.flatten)).Perm (A ++ Ts.flatten)
  refine List.Perm.trans ?_ (List.Perm.append_left A h4)
  exact (List.perm_middle (a := x) (l₁ := A) (l₂ := Ts'.flatten)).symm
theorem TL.openT (jr : List Nat) (j : Nat) (hp : ([j] ++ jr).isPerm (List.range Ts.length) = true) (hj : Ts[j]? = some [x]) (hr : jr.filterMap (Ts[·]?) = Ts') (h : TL r P N D F w0 ops i L (ap (x :: A) Ts') Q) : TL r P N D F w0 ops i L (ap A Ts) Q :=
  fun a w h1 h2 h3 => h a w h1 (h2.perm ((openT_perm jr j hp hj hr).append_right F)) h3
theorem apT_perm {A : HL} {Ts Ts' : List HL} (jp : List Nat) (hp : jp.isPerm (List.range Ts.length) = true) (e : jp.filterMap (Ts[·]?) = Ts') : (ap A Ts').Perm (ap A Ts) := by
  have h3 := pick_perm Ts jp [] (by simpa using hp)
  rw [e] at h3
  simp only [List.filterMap_nil, List.append_nil] at h3
  exact List.Perm.append_left A h3.flatten
theorem TL.permT (jp : List Nat) (hp : jp.isPerm (List.range Ts.length) = true) (e : jp.filterMap (Ts[·]?) = Ts') (h : TL r P N D F w0 ops i L (ap A Ts') Q) : TL r P N D F w0 ops i L (ap A Ts) Q :=
  fun a w h1 h2 h3 => h a w h1 (h2.perm ((apT_perm jp hp e).append_right F)) h3
theorem TR.permT {c : Code} (jp : List Nat) (hp : jp.isPerm (List.range Ts.length) = true) (e : jp.filterMap (Ts[·]?) = Ts') (h : TR r P N D F w0 L (ap A Ts') c Q) : TR r P N D F w0 L (ap A Ts) c Q :=
  fun a w h1 h2 h3 => h a w h1 (h2.perm ((apT_perm jp hp e).append_right F)) h3
theorem EX.permT {x : Exit} (jp : List Nat) (hp : jp.isPerm (List.range Ts.length) = true) (e : jp.filterMap (Ts[·]?) = Ts') (h : EX N D F w0 L (ap A Ts') Q x) : EX N D F w0 L (ap A Ts) Q x :=
  fun a w h1 h2 h3 => h a w h1 (h2.perm ((apT_perm jp hp e).append_right F)) h3
theorem TR.openT {c : Code} (jr : List Nat) (j : Nat) (hp : ([j] ++ jr).isPerm (List.range Ts.length) = true) (hj : Ts[j]? = some [x]) (hr : jr.filterMap (Ts[·]?) = Ts') (h : TR r P N D F w0 L (ap (x :: A) Ts') c Q) : TR r P N D F w0 L (ap A Ts) c Q :=
  fun a w h1 h2 h3 => h a w h1 (h2.perm ((openT_perm jr j hp hj hr).append_right F)) h3
end
end Go.Proofs.YtampdcgphdnnhaaGreatDoor
