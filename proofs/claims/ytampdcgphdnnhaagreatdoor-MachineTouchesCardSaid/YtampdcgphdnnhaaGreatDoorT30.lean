/- Contracts, printed by a program. -/
import Derived.Test.YtampdcgphdnnhaaGreatDoorT29
namespace Go.Proofs.YtampdcgphdnnhaaGreatDoor
set_option linter.unusedSimpArgs false
set_option linter.unusedVariables false
open Go.RowKit
def vsL : List ByteArray := [⟨#[105]⟩, ⟨#[110]⟩, ⟨#[115, 117, 109]⟩, ⟨#[118, 51]⟩]
def naL : List ByteArray := [⟨#[115, 101, 108, 102]⟩, ⟨#[111, 116, 104, 101, 114]⟩, ⟨#[116, 105, 99, 107]⟩]
def fdL : List ByteArray := [⟨#[120]⟩, ⟨#[121]⟩, ⟨#[118, 120]⟩, ⟨#[118, 121]⟩, ⟨#[97]⟩, ⟨#[98]⟩, ⟨#[104, 105, 116]⟩, ⟨#[115, 116, 105, 108, 108]⟩]
def opL : List ByteArray := [⟨#[43]⟩, ⟨#[45]⟩, ⟨#[42]⟩, ⟨#[47]⟩]
def cmL : List ByteArray := [⟨#[60]⟩, ⟨#[60, 61]⟩, ⟨#[62]⟩, ⟨#[62, 61]⟩, ⟨#[61, 61]⟩, ⟨#[33, 61]⟩]
def loL : List ByteArray := [⟨#[38, 38]⟩, ⟨#[124, 124]⟩]
def stL : List ByteArray := [⟨#[120]⟩, ⟨#[121]⟩, ⟨#[118, 120]⟩, ⟨#[118, 121]⟩, ⟨#[97]⟩, ⟨#[98]⟩]
def iL : List Int := [0, 1, 2, 3, 7, 100, 1024, 2147483647]
/-- a node of a bounded height, with at most three children a node -/
inductive Ht : Nat → Nd → Prop
  | mk (h : Nat) (k n : Int) (s : ByteArray) (A : Option Addr) (c : Nat) (l : List Nd) (hl : l.length ≤ 3) (hx : ∀ x ∈ l, Ht h x) : Ht (h + 1) (.mk k n s A c l)
theorem Ht.up {h h' : Nat} {x : Nd} (hx : Ht h x) (hh : h ≤ h') : Ht h' x := by
  induction hx generalizing h' with
  | mk h k n s A c l hl hx ih =>
    obtain ⟨m, rfl⟩ : ∃ m, h' = m + 1 := ⟨h' - 1, by omega⟩
    exact .mk m k n s A c l hl fun x hm => ih x hm (by omega)
theorem Ht.zero {h : Nat} {k n : Int} {s : ByteArray} {A : Option Addr} {c : Nat} : Ht (h + 1) (.mk k n s A c []) := .mk h k n s A c [] (by decide) fun x hx => by simp at hx
theorem Ht.one {h a : Nat} {x : Nd} (hx : Ht a x) (ha : a ≤ h) {k n : Int} {s : ByteArray} {A : Option Addr} {c : Nat} : Ht (h + 1) (.mk k n s A c [x]) := .mk h k n s A c [x] (Nat.le_of_ble_eq_true rfl) fun y hy => by
  simp only [List.mem_singleton] at hy; subst hy; exact hx.up ha
theorem Ht.two {h a b : Nat} {x y : Nd} (hx : Ht a x) (hy : Ht b y) (ha : a ≤ h) (hb : b ≤ h) {k n : Int} {s : ByteArray} {A : Option Addr} {c : Nat} : Ht (h + 1) (.mk k n s A c [x, y]) := .mk h k n s A c [x, y] (Nat.le_of_ble_eq_true rfl) fun z hz => by
  simp only [List.mem_cons, List.not_mem_nil, or_false] at hz
  rcases hz with rfl | rfl
  · exact hx.up ha
  · exact hy.up hb
theorem Ht.three {h a b d : Nat} {x y z : Nd} (hx : Ht a x) (hy : Ht b y) (hz : Ht d z) (ha : a ≤ h) (hb : b ≤ h) (hd : d ≤ h) {k n : Int} {s : ByteArray} {A : Option Addr} {c : Nat} : Ht (h + 1) (.mk k n s A c [x, y, z]) := .mk h k n s A c [x, y, z] (Nat.le_of_ble_eq_true rfl) fun w hw => by
  simp only [List.mem_cons, List.not_mem_nil, or_false] at hw
  rcases hw with rfl | rfl | rfl
  · exact hx.up ha
  · exact hy.up hb
  · exact hz.up hd
theorem NdH.zero {k n : Int} {s : ByteArray} {A : Option Addr} {c : Nat} {T : HL} : NdH (.mk k n s A c []) T := fun F _ => .leaf k n s A c
theorem NdH.one {x : Nd} {T : HL} (h : NdH x T) {k n : Int} {s : ByteArray} {q c : Nat} : NdH (.mk k n s (some ⟨q, 0, none⟩) c [x]) ((q, .rows 4 1 (nrow [x]) 82 (0, 0)) :: T) := fun F hF =>
  .node k n s q 1 c [x] [] (hF _ (by simp)) (Nat.le_refl _) fun y hy => by
    simp only [List.mem_singleton] at hy; subst hy; exact h F fun z hz => hF z (by simp [hz])
theorem NdH.two {x y : Nd} {T U : HL} (h : NdH x T) (h2 : NdH y U) {k n : Int} {s : ByteArray} {q c : Nat} : NdH (.mk k n s (some ⟨q, 0, none⟩) c [x, y]) ((q, .rows 4 2 (nrow [x, y]) 82 (0, 0)) :: (U ++ T)) := fun F hF =>
  .node k n s q 2 c [x, y] [] (hF _ (by simp)) (Nat.le_refl _) fun z hz => by
    simp only [List.mem_cons, List.not_mem_nil, or_false] at hz
    rcases hz with rfl | rfl
    · exact h F fun z hz => hF z (by simp [hz])
    · exact h2 F fun z hz => hF z (by simp [hz])
abbrev GenS (f : FuncId) (args : Array Value) (G : Nd → Prop) (g c n : Nat) (A : Option Addr) (i : Nat) (F : HL) : Prop :=
  Sp Tryz.prog f args (ap [(g, .lit [.slice A n c, vI (i : Int)] 120 (0, 0))] []) F (fun u H' => ∃ x : Nd × Nat × HL, H' = ap [(g, .lit [.slice A n c, vI (x.2.1 : Int)] 120 (0, 0))] [x.2.2] ∧ (u = ndV x.1 ∧ x.2.1 ≤ n ∧ G x.1 ∧ NdH x.1 x.2.2))

set_option maxHeartbeats 2000000 in
set_option maxRecDepth 100000 in
theorem int_step (g c i n : Nat) (A : Option Addr) (d : Int) (hd : -100 ≤ d ∧ d ≤ 1000) (hi : i ≤ n) (hn : n ≤ 60) (F : HL) (hG : GIn F A n) (ih : 0 < d → ∀ (i : Nat) (F : HL), i ≤ n → GIn F A n → GenS 118 #[vP g 0, vI (d - 1)] (Ht ((d - 1).toNat + 1)) g c n A i F) : Sp Tryz.prog 118 #[vP g 0, vI d] [(g, .lit [.slice A n c, vI (i : Int)] 120 (0, 0))] F (fun u H' => ∃ x : Nd × Nat × HL, H' = ap [(g, .lit [.slice A n c, vI (x.2.1 : Int)] 120 (0, 0))] [x.2.2] ∧ (u = ndV x.1 ∧ x.2.1 ≤ n ∧ Ht (d.toNat + 1) x.1 ∧ NdH x.1 x.2.2)) := by
  refine Sp.run Tryz.func118 rfl mn (A := [(g, .lit [.slice A n c, vI (i : Int)] 120 (0, 0))]) (Ts := []) rfl fun w0 => ?_
  refine RN.go 8 [] fun n1 => RN.ct [1] [] (pick_any g c i n A 12 (by omega) (by omega) hn _ hG.up) ?_
  rintro _ ⟨k2, i3⟩ ⟨rfl, hk4, hi5⟩
  dsimp only at hk4 hi5
  refine RN.go 10 [] fun _ => RN.em (d ≤ 0) 12 (fun h6 => ?_) fun h6 => ?_
  · refine RN.goP 21 [.nw] [0 ≤ (k2 : Int) ∧ (0 : Int) < 6 ∧ (k2 : Int) ≤ 9223372036854775807] fun _ => RN.em ((k2 : Int) % 6 = 0) 16 (fun h7 => ?_) fun h7 => ?_
    · refine RN.go 8 [] fun n8 => RN.ct [1] [] (pick_any g c i3 n A 8 (by omega) (by omega) hn _ hG.up) ?_
      rintro _ ⟨k9, i10⟩ ⟨rfl, hk11, hi12⟩
      dsimp only at hk11 hi12
      refine RN.dn 1 (.rows 1 8 (irow iL) 3 (0, 0)) <| RN.goP 6 [.ix k9, .row 1 k9 0, .own 2, .own 2, .own 2, .own 2] [(0 + k9 * 1) = k9 * 1 + 0 ∧ k9 < 8, (k9 : Int) = ((k9 : Nat) : Int) ∧ k9 < 8] fun _ => RN.ret [.own 2, .own 2, .own 2, .own 2] [0] [] (v := .agg #[vI 8, vI (iL.getD k9 0), .string ⟨#[]⟩, .slice none 0 0]) (H' := (ap [(g, .lit [.slice A n c, vI (i10 : Int)] 120 (0, 0))] [])) ?_
      exact ⟨(.mk 8 (iL.getD k9 0) ⟨#[]⟩ none 0 [], i10, []), (by simp [ap]), rfl, (by dsimp only; omega), .zero, .zero⟩
    · refine RN.go 6 [] fun _ => RN.em ((k2 : Int) % 6 = 1) 16 (fun h13 => ?_) fun h13 => ?_
      · refine RN.go 5 [] fun n14 => RN.ct [1] [] (pick_any g c i3 n A 8 (by omega) (by omega) hn _ hG.up) ?_
        rintro _ ⟨k15, i16⟩ ⟨rfl, hk17, hi18⟩
        dsimp only at hk17 hi18
        refine RN.dn 1 (.rows 1 8 (irow iL) 3 (0, 0)) <| RN.goP 6 [.ix k15, .row 1 k15 0, .own 2, .own 2, .own 2, .own 2] [(0 + k15 * 1) = k15 * 1 + 0 ∧ k15 < 8, (k15 : Int) = ((k15 : Nat) : Int) ∧ k15 < 8] fun _ => RN.ret [.own 2, .own 2, .own 2, .own 2] [0] [] (v := .agg #[vI 8, vI (iL.getD k15 0), .string ⟨#[]⟩, .slice none 0 0]) (H' := (ap [(g, .lit [.slice A n c, vI (i16 : Int)] 120 (0, 0))] [])) ?_
        exact ⟨(.mk 8 (iL.getD k15 0) ⟨#[]⟩ none 0 [], i16, []), (by simp [ap]), rfl, (by dsimp only; omega), .zero, .zero⟩
      · refine RN.go 8 [] fun _ => RN.em ((k2 : Int) % 6 = 2) 25 (fun h19 => ?_) fun h19 => ?_
        · refine RN.go 8 [] fun n20 => RN.ct [1] [] (pick_any g c i3 n A 4 (by omega) (by omega) hn _ hG.up) ?_
          rintro _ ⟨k21, i22⟩ ⟨rfl, hk23, hi24⟩
          dsimp only at hk23 hi24
          refine RN.dn 1 (.rows 1 4 (strow vsL) 9 (0, 0)) <| RN.goP 6 [.ix k21, .row 1 k21 0, .own 2, .own 2, .own 2, .own 2] [(0 + k21 * 1) = k21 * 1 + 0 ∧ k21 < 4, (k21 : Int) = ((k21 : Nat) : Int) ∧ k21 < 4] fun _ => RN.ret [.own 2, .own 2, .own 2, .own 2] [0] [] (v := .agg #[vI 10, vI 0, .string (vsL.getD k21 ⟨#[]⟩), .slice none 0 0]) (H' := (ap [(g, .lit [.slice A n c, vI (i22 : Int)] 120 (0, 0))] [])) ?_
          exact ⟨(.mk 10 0 (vsL.getD k21 ⟨#[]⟩) none 0 [], i22, []), (by simp [ap]), rfl, (by dsimp only; omega), .zero, .zero⟩
        · refine RN.go 6 [] fun _ => RN.em ((k2 : Int) % 6 = 3) 25 (fun h25 => ?_) fun h25 => ?_
          · refine RN.go 5 [] fun n26 => RN.ct [1] [] (pick_any g c i3 n A 4 (by omega) (by omega) hn _ hG.up) ?_
            rintro _ ⟨k27, i28⟩ ⟨rfl, hk29, hi30⟩
            dsimp only at hk29 hi30
            refine RN.dn 1 (.rows 1 4 (strow vsL) 9 (0, 0)) <| RN.goP 6 [.ix k27, .row 1 k27 0, .own 2, .own 2, .own 2, .own 2] [(0 + k27 * 1) = k27 * 1 + 0 ∧ k27 < 4, (k27 : Int) = ((k27 : Nat) : Int) ∧ k27 < 4] fun _ => RN.ret [.own 2, .own 2, .own 2, .own 2] [0] [] (v := .agg #[vI 10, vI 0, .string (vsL.getD k27 ⟨#[]⟩), .slice none 0 0]) (H' := (ap [(g, .lit [.slice A n c, vI (i28 : Int)] 120 (0, 0))] [])) ?_
            exact ⟨(.mk 10 0 (vsL.getD k27 ⟨#[]⟩) none 0 [], i28, []), (by simp [ap]), rfl, (by dsimp only; omega), .zero, .zero⟩
          · refine RN.go 8 [] fun _ => RN.em ((k2 : Int) % 6 = 4) 34 (fun h31 => ?_) fun h31 => ?_
            · refine RN.go 8 [] fun n32 => RN.ct [1] [] (pick_any g c i3 n A 3 (by omega) (by omega) hn _ hG.up) ?_
              rintro _ ⟨k33, i34⟩ ⟨rfl, hk35, hi36⟩
              dsimp only at hk35 hi36
              refine RN.dn 1 (.rows 1 3 (strow naL) 9 (0, 0)) <| RN.goP 6 [.ix k33, .row 1 k33 0, .own 2, .own 2, .own 2, .own 2] [(0 + k33 * 1) = k33 * 1 + 0 ∧ k33 < 3, (k33 : Int) = ((k33 : Nat) : Int) ∧ k33 < 3] fun _ => RN.ret [.own 2, .own 2, .own 2, .own 2] [0] [] (v := .agg #[vI 12, vI 0, .string (naL.getD k33 ⟨#[]⟩), .slice none 0 0]) (H' := (ap [(g, .lit [.slice A n c, vI (i34 : Int)] 120 (0, 0))] [])) ?_
              exact ⟨(.mk 12 0 (naL.getD k33 ⟨#[]⟩) none 0 [], i34, []), (by simp [ap]), rfl, (by dsimp only; omega), .zero, .zero⟩
            · refine RN.go 6 [] fun _ => RN.em ((k2 : Int) % 6 = 5) 34 (fun h37 => ?_) fun h37 => ?_
              · refine RN.go 5 [] fun n38 => RN.ct [1] [] (pick_any g c i3 n A 3 (by omega) (by omega) hn _ hG.up) ?_
                rintro _ ⟨k39, i40⟩ ⟨rfl, hk41, hi42⟩
                dsimp only at hk41 hi42
                refine RN.dn 1 (.rows 1 3 (strow naL) 9 (0, 0)) <| RN.goP 6 [.ix k39, .row 1 k39 0, .own 2, .own 2, .own 2, .own 2] [(0 + k39 * 1) = k39 * 1 + 0 ∧ k39 < 3, (k39 : Int) = ((k39 : Nat) : Int) ∧ k39 < 3] fun _ => RN.ret [.own 2, .own 2, .own 2, .own 2] [0] [] (v := .agg #[vI 12, vI 0, .string (naL.getD k39 ⟨#[]⟩), .slice none 0 0]) (H' := (ap [(g, .lit [.slice A n c, vI (i40 : Int)] 120 (0, 0))] [])) ?_
                exact ⟨(.mk 12 0 (naL.getD k39 ⟨#[]⟩) none 0 [], i40, []), (by simp [ap]), rfl, (by dsimp only; omega), .zero, .zero⟩
              · omega
  · refine RN.go 17 [] fun _ => RN.em ((k2 : Int) = 0) 16 (fun h43 => ?_) fun h43 => ?_
    · refine RN.go 8 [] fun n44 => RN.ct [1] [] (pick_any g c i3 n A 8 (by omega) (by omega) hn _ hG.up) ?_
      rintro _ ⟨k45, i46⟩ ⟨rfl, hk47, hi48⟩
      dsimp only at hk47 hi48
      refine RN.dn 1 (.rows 1 8 (irow iL) 3 (0, 0)) <| RN.goP 6 [.ix k45, .row 1 k45 0, .own 2, .own 2, .own 2, .own 2] [(0 + k45 * 1) = k45 * 1 + 0 ∧ k45 < 8, (k45 : Int) = ((k45 : Nat) : Int) ∧ k45 < 8] fun _ => RN.ret [.own 2, .own 2, .own 2, .own 2] [0] [] (v := .agg #[vI 8, vI (iL.getD k45 0), .string ⟨#[]⟩, .slice none 0 0]) (H' := (ap [(g, .lit [.slice A n c, vI (i46 : Int)] 120 (0, 0))] [])) ?_
      exact ⟨(.mk 8 (iL.getD k45 0) ⟨#[]⟩ none 0 [], i46, []), (by simp [ap]), rfl, (by dsimp only; omega), .zero, .zero⟩
    · refine RN.go 6 [] fun _ => RN.em ((k2 : Int) = 1) 16 (fun h49 => ?_) fun h49 => ?_
      · refine RN.go 5 [] fun n50 => RN.ct [1] [] (pick_any g c i3 n A 8 (by omega) (by omega) hn _ hG.up) ?_
        rintro _ ⟨k51, i52⟩ ⟨rfl, hk53, hi54⟩
        dsimp only at hk53 hi54
        refine RN.dn 1 (.rows 1 8 (irow iL) 3 (0, 0)) <| RN.goP 6 [.ix k51, .row 1 k51 0, .own 2, .own 2, .own 2, .own 2] [(0 + k51 * 1) = k51 * 1 + 0 ∧ k51 < 8, (k51 : Int) = ((k51 : Nat) : Int) ∧ k51 < 8] fun _ => RN.ret [.own 2, .own 2, .own 2, .own 2] [0] [] (v := .agg #[vI 8, vI (iL.getD k51 0), .string ⟨#[]⟩, .slice none 0 0]) (H' := (ap [(g, .lit [.slice A n c, vI (i52 : Int)] 120 (0, 0))] [])) ?_
        exact ⟨(.mk 8 (iL.getD k51 0) ⟨#[]⟩ none 0 [], i52, []), (by simp [ap]), rfl, (by dsimp only; omega), .zero, .zero⟩
      · refine RN.go 8 [] fun _ => RN.em ((k2 : Int) = 2) 25 (fun h55 => ?_) fun h55 => ?_
        · refine RN.go 8 [] fun n56 => RN.ct [1] [] (pick_any g c i3 n A 4 (by omega) (by omega) hn _ hG.up) ?_
          rintro _ ⟨k57, i58⟩ ⟨rfl, hk59, hi60⟩
          dsimp only at hk59 hi60
          refine RN.dn 1 (.rows 1 4 (strow vsL) 9 (0, 0)) <| RN.goP 6 [.ix k57, .row 1 k57 0, .own 2, .own 2, .own 2, .own 2] [(0 + k57 * 1) = k57 * 1 + 0 ∧ k57 < 4, (k57 : Int) = ((k57 : Nat) : Int) ∧ k57 < 4] fun _ => RN.ret [.own 2, .own 2, .own 2, .own 2] [0] [] (v := .agg #[vI 10, vI 0, .string (vsL.getD k57 ⟨#[]⟩), .slice none 0 0]) (H' := (ap [(g, .lit [.slice A n c, vI (i58 : Int)] 120 (0, 0))] [])) ?_
          exact ⟨(.mk 10 0 (vsL.getD k57 ⟨#[]⟩) none 0 [], i58, []), (by simp [ap]), rfl, (by dsimp only; omega), .zero, .zero⟩
        · refine RN.go 6 [] fun _ => RN.em ((k2 : Int) = 3) 25 (fun h61 => ?_) fun h61 => ?_
          · refine RN.go 5 [] fun n62 => RN.ct [1] [] (pick_any g c i3 n A 4 (by omega) (by omega) hn _ hG.up) ?_
            rintro _ ⟨k63, i64⟩ ⟨rfl, hk65, hi66⟩
            dsimp only at hk65 hi66
            refine RN.dn 1 (.rows 1 4 (strow vsL) 9 (0, 0)) <| RN.goP 6 [.ix k63, .row 1 k63 0, .own 2, .own 2, .own 2, .own 2] [(0 + k63 * 1) = k63 * 1 + 0 ∧ k63 < 4, (k63 : Int) = ((k63 : Nat) : Int) ∧ k63 < 4] fun _ => RN.ret [.own 2, .own 2, .own 2, .own 2] [0] [] (v := .agg #[vI 10, vI 0, .string (vsL.getD k63 ⟨#[]⟩), .slice none 0 0]) (H' := (ap [(g, .lit [.slice A n c, vI (i64 : Int)] 120 (0, 0))] [])) ?_
            exact ⟨(.mk 10 0 (vsL.getD k63 ⟨#[]⟩) none 0 [], i64, []), (by simp [ap]), rfl, (by dsimp only; omega), .zero, .zero⟩
          · refine RN.go 8 [] fun _ => RN.em ((k2 : Int) = 4) 34 (fun h67 => ?_) fun h67 => ?_
            · refine RN.go 8 [] fun n68 => RN.ct [1] [] (pick_any g c i3 n A 3 (by omega) (by omega) hn _ hG.up) ?_
              rintro _ ⟨k69, i70⟩ ⟨rfl, hk71, hi72⟩
              dsimp only at hk71 hi72
              refine RN.dn 1 (.rows 1 3 (strow naL) 9 (0, 0)) <| RN.goP 6 [.ix k69, .row 1 k69 0, .own 2, .own 2, .own 2, .own 2] [(0 + k69 * 1) = k69 * 1 + 0 ∧ k69 < 3, (k69 : Int) = ((k69 : Nat) : Int) ∧ k69 < 3] fun _ => RN.ret [.own 2, .own 2, .own 2, .own 2] [0] [] (v := .agg #[vI 12, vI 0, .string (naL.getD k69 ⟨#[]⟩), .slice none 0 0]) (H' := (ap [(g, .lit [.slice A n c, vI (i70 : Int)] 120 (0, 0))] [])) ?_
              exact ⟨(.mk 12 0 (naL.getD k69 ⟨#[]⟩) none 0 [], i70, []), (by simp [ap]), rfl, (by dsimp only; omega), .zero, .zero⟩
            · refine RN.go 6 [] fun _ => RN.em ((k2 : Int) = 5) 34 (fun h73 => ?_) fun h73 => ?_
              · refine RN.go 5 [] fun n74 => RN.ct [1] [] (pick_any g c i3 n A 3 (by omega) (by omega) hn _ hG.up) ?_
                rintro _ ⟨k75, i76⟩ ⟨rfl, hk77, hi78⟩
                dsimp only at hk77 hi78
                refine RN.dn 1 (.rows 1 3 (strow naL) 9 (0, 0)) <| RN.goP 6 [.ix k75, .row 1 k75 0, .own 2, .own 2, .own 2, .own 2] [(0 + k75 * 1) = k75 * 1 + 0 ∧ k75 < 3, (k75 : Int) = ((k75 : Nat) : Int) ∧ k75 < 3] fun _ => RN.ret [.own 2, .own 2, .own 2, .own 2] [0] [] (v := .agg #[vI 12, vI 0, .string (naL.getD k75 ⟨#[]⟩), .slice none 0 0]) (H' := (ap [(g, .lit [.slice A n c, vI (i76 : Int)] 120 (0, 0))] [])) ?_
                exact ⟨(.mk 12 0 (naL.getD k75 ⟨#[]⟩) none 0 [], i76, []), (by simp [ap]), rfl, (by dsimp only; omega), .zero, .zero⟩
              · refine RN.go 8 [] fun _ => RN.em ((k2 : Int) = 6) 43 (fun h79 => ?_) fun h79 => ?_
                · refine RN.go 8 [] fun n80 => RN.ct [1] [] (pick_any g c i3 n A 8 (by omega) (by omega) hn _ hG.up) ?_
                  rintro _ ⟨k81, i82⟩ ⟨rfl, hk83, hi84⟩
                  dsimp only at hk83 hi84
                  refine RN.dn 1 (.rows 1 8 (strow fdL) 9 (0, 0)) <| RN.goP 11 [.ix k81, .row 1 k81 0, .nw] [I64 (d - 1), (0 + k81 * 1) = k81 * 1 + 0 ∧ k81 < 8, (k81 : Int) = ((k81 : Nat) : Int) ∧ k81 < 8] fun _ => RN.ct [0] [] (ih (by omega) i82 _ (by omega) hG.up) ?_
                  rintro _ ⟨x85, i86, T87⟩ ⟨rfl, hi88, hg89, hT90⟩
                  dsimp only at hi88 hg89 hT90
                  refine RN.ct (Hp := []) (Tp := []) [] [] (one_any 11 (fdL.getD k81 ⟨#[]⟩) x85 _) ?_
                  rintro _ q91 rfl
                  refine RN.go 3 [.own 3, .own 3, .own 3, .own 3] fun _ => RN.ret [.own 3, .own 3, .own 3, .own 3] [1, 0] [0] (v := .agg #[vI 11, vI 0, .string (fdL.getD k81 ⟨#[]⟩), vS q91 0 1 1]) (H' := (ap [(g, .lit [.slice A n c, vI (i86 : Int)] 120 (0, 0)), (q91, .rows 4 1 (nrow [x85]) 82 (0, 0))] [T87])) ?_
                  exact ⟨(.mk 11 0 (fdL.getD k81 ⟨#[]⟩) (some ⟨q91, 0, none⟩) 1 [x85], i86, (q91, .rows 4 1 (nrow [x85]) 82 (0, 0)) :: (T87)), (by simp [ap]), rfl, (by dsimp only; omega), .one hg89 (by omega), .one hT90⟩
                · refine RN.go 6 [] fun _ => RN.em ((k2 : Int) = 7) 43 (fun h92 => ?_) fun h92 => ?_
                  · refine RN.go 5 [] fun n93 => RN.ct [1] [] (pick_any g c i3 n A 8 (by omega) (by omega) hn _ hG.up) ?_
                    rintro _ ⟨k94, i95⟩ ⟨rfl, hk96, hi97⟩
                    dsimp only at hk96 hi97
                    refine RN.dn 1 (.rows 1 8 (strow fdL) 9 (0, 0)) <| RN.goP 11 [.ix k94, .row 1 k94 0, .nw] [I64 (d - 1), (0 + k94 * 1) = k94 * 1 + 0 ∧ k94 < 8, (k94 : Int) = ((k94 : Nat) : Int) ∧ k94 < 8] fun _ => RN.ct [0] [] (ih (by omega) i95 _ (by omega) hG.up) ?_
                    rintro _ ⟨x98, i99, T100⟩ ⟨rfl, hi101, hg102, hT103⟩
                    dsimp only at hi101 hg102 hT103
                    refine RN.ct (Hp := []) (Tp := []) [] [] (one_any 11 (fdL.getD k94 ⟨#[]⟩) x98 _) ?_
                    rintro _ q104 rfl
                    refine RN.go 3 [.own 3, .own 3, .own 3, .own 3] fun _ => RN.ret [.own 3, .own 3, .own 3, .own 3] [1, 0] [0] (v := .agg #[vI 11, vI 0, .string (fdL.getD k94 ⟨#[]⟩), vS q104 0 1 1]) (H' := (ap [(g, .lit [.slice A n c, vI (i99 : Int)] 120 (0, 0)), (q104, .rows 4 1 (nrow [x98]) 82 (0, 0))] [T100])) ?_
                    exact ⟨(.mk 11 0 (fdL.getD k94 ⟨#[]⟩) (some ⟨q104, 0, none⟩) 1 [x98], i99, (q104, .rows 4 1 (nrow [x98]) 82 (0, 0)) :: (T100)), (by simp [ap]), rfl, (by dsimp only; omega), .one hg102 (by omega), .one hT103⟩
                  · refine RN.go 7 [] fun _ => RN.em ((k2 : Int) = 8) 57 (fun h105 => ?_) fun h105 => ?_
                    · refine RN.goP 6 [.nw] [I64 (d - 1)] fun _ => RN.ct [0] [] (ih (by omega) i3 _ (by omega) hG.up) ?_
                      rintro _ ⟨x106, i107, T108⟩ ⟨rfl, hi109, hg110, hT111⟩
                      dsimp only at hi109 hg110 hT111
                      refine RN.ct (Hp := []) (Tp := []) [] [] (one_any 13 ⟨#[45]⟩ x106 _) ?_
                      rintro _ q112 rfl
                      refine RN.go 3 [.own 2, .own 2, .own 2, .own 2] fun _ => RN.ret [.own 2, .own 2, .own 2, .own 2] [1, 0] [0] (v := .agg #[vI 13, vI 0, .string ⟨#[45]⟩, vS q112 0 1 1]) (H' := (ap [(g, .lit [.slice A n c, vI (i107 : Int)] 120 (0, 0)), (q112, .rows 4 1 (nrow [x106]) 82 (0, 0))] [T108])) ?_
                      exact ⟨(.mk 13 0 ⟨#[45]⟩ (some ⟨q112, 0, none⟩) 1 [x106], i107, (q112, .rows 4 1 (nrow [x106]) 82 (0, 0)) :: (T108)), (by simp [ap]), rfl, (by dsimp only; omega), .one hg110 (by omega), .one hT111⟩
                    · refine RN.go 8 [] fun n113 => RN.ct [1] [] (pick_any g c i3 n A 4 (by omega) (by omega) hn _ hG.up) ?_
                      rintro _ ⟨k114, i115⟩ ⟨rfl, hk116, hi117⟩
                      dsimp only at hk116 hi117
                      refine RN.dn 1 (.rows 1 4 (strow opL) 9 (0, 0)) <| RN.goP 10 [.ix k114, .row 1 k114 0, .nw] [I64 (d - 1), (0 + k114 * 1) = k114 * 1 + 0 ∧ k114 < 4, (k114 : Int) = ((k114 : Nat) : Int) ∧ k114 < 4] fun _ => RN.ct [0] [] (ih (by omega) i115 _ (by omega) hG.up) ?_
                      rintro _ ⟨x118, i119, T120⟩ ⟨rfl, hi121, hg122, hT123⟩
                      dsimp only at hi121 hg122 hT123
                      refine RN.go 5 [.own 0, .own 0, .own 0, .own 0] fun n124 => RN.draw [5, 6, 7] [] <| RD.goP [] [0, 2, 3, 4] [.nw] [I64 (d - 1)] <| RD.two 1 5 ?_ ?_
                      · refine RDO.ev [] [.own 0, .own 0, .own 0, .own 0] fun _ => RD.one 5 (RDO.ct [] [1] [] (ih (by omega) i119 _ (by omega) hG.up) ?_)
                        rintro _ ⟨x125, i126, T127⟩ ⟨rfl, hi128, hg129, hT130⟩
                        dsimp only at hi128 hg129 hT130
                        refine RD.one 6 (RDO.ct [] (Hp := []) (Tp := []) [] [] (two_any 14 (opL.getD k114 ⟨#[]⟩) x118 x125 _) ?_)
                        rintro _ q131 rfl
                        refine RD.one 7 (RDO.ev [] [.own 4, .own 4, .own 4, .own 4] fun _ => ?_)
                        refine RD.fin <| RN.go 1 [] fun _ => RN.ret [.own 4, .own 4, .own 4, .own 4] [1, 0] [0, 1] (v := .agg #[vI 14, vI 0, .string (opL.getD k114 ⟨#[]⟩), vS q131 0 2 2]) (H' := (ap [(g, .lit [.slice A n c, vI (i126 : Int)] 120 (0, 0)), (q131, .rows 4 2 (nrow [x118, x125]) 82 (0, 0))] [T127, T120])) ?_
                        exact ⟨(.mk 14 0 (opL.getD k114 ⟨#[]⟩) (some ⟨q131, 0, none⟩) 2 [x118, x125], i126, (q131, .rows 4 2 (nrow [x118, x125]) 82 (0, 0)) :: (T127 ++ T120)), (by simp [ap]), rfl, (by dsimp only; omega), .two hg122 hg129 (by omega) (by omega), .two hT123 hT130⟩
                      · refine RDO.ct [] [1] [] (ih (by omega) i119 _ (by omega) hG.up) ?_
                        rintro _ ⟨x132, i133, T134⟩ ⟨rfl, hi135, hg136, hT137⟩
                        dsimp only at hi135 hg136 hT137
                        refine RD.one 1 (RDO.ev [] [.own 1, .own 1, .own 1, .own 1] fun _ => ?_)
                        refine RD.one 6 (RDO.ct [] (Hp := []) (Tp := []) [] [] (two_any 14 (opL.getD k114 ⟨#[]⟩) x118 x132 _) ?_)
                        rintro _ q138 rfl
                        refine RD.one 7 (RDO.ev [] [.own 4, .own 4, .own 4, .own 4] fun _ => ?_)
                        refine RD.fin <| RN.go 1 [] fun _ => RN.ret [.own 4, .own 4, .own 4, .own 4] [1, 0] [0, 1] (v := .agg #[vI 14, vI 0, .string (opL.getD k114 ⟨#[]⟩), vS q138 0 2 2]) (H' := (ap [(g, .lit [.slice A n c, vI (i133 : Int)] 120 (0, 0)), (q138, .rows 4 2 (nrow [x118, x132]) 82 (0, 0))] [T134, T120])) ?_
                        exact ⟨(.mk 14 0 (opL.getD k114 ⟨#[]⟩) (some ⟨q138, 0, none⟩) 2 [x118, x132], i133, (q138, .rows 4 2 (nrow [x118, x132]) 82 (0, 0)) :: (T134 ++ T120)), (by simp [ap]), rfl, (by dsimp only; omega), .two hg122 hg136 (by omega) (by omega), .two hT123 hT137⟩

theorem int_any {g c n : Nat} {A : Option Addr} (hn : n ≤ 60) : ∀ (m : Nat) (d : Int), d ≤ m → -100 ≤ d → m ≤ 1000 → ∀ (i : Nat) (F : HL), i ≤ n → GIn F A n → GenS 118 #[vP g 0, vI d] (Ht (d.toNat + 1)) g c n A i F
  | 0, d, h, h2, h3, i, F, hi, hG => int_step g c i n A d (by omega) hi hn F hG fun h => absurd h (by omega)
  | m + 1, d, h, h2, h3, i, F, hi, hG => int_step g c i n A d (by omega) hi hn F hG fun h i F hi hG => int_any hn m (d - 1) (by omega) (by omega) (by omega) i F hi hG
end Go.Proofs.YtampdcgphdnnhaaGreatDoor
