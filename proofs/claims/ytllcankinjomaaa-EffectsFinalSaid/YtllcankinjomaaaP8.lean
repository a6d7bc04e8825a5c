import Derived.Test.YtllcankinjomaaaL8
namespace Go.Proofs.Ytllcankinjomaaa
set_option linter.unusedSimpArgs false
set_option linter.unusedVariables false
open Go.RowKit Go.MapKept Go.Maps

/-! ### append, and where its row lies -/
section
variable {P : Program}
/-- the row of v' is that of v, or new -/
def NewRow (w : World) (v v' : Value) : Prop := v'.ownBlock = v.ownBlock ∨ ∀ g, v'.ownBlock = some g → w.heap.size ≤ g
theorem append_where (w : World) (base : Nat) (t ty e : TypeId) (i : TypeInfo) (z : Value) (size bytes : Nat) (ht : P.underlying t = some (.slice e)) (hi : P.info? e = some i) (hz : i.zero = some z)
    (hsize : i.size = size) (hby : i.bytes = bytes) (hzs : z.cells.size = size) (hsz : 0 < size)
    (v : Value) (n : Nat) (xs : List Value) (hown : w.ownsRow base e size v n xs)
    (a : Addr) (m c : Nat) (news : List Value) (hl : news.length = m * size) (hnews : ∀ j u, news[j]? = some u → w.cell? (a.add j) = some u) (h1 : ∀ u ∈ news, u.oneCell' = true)
    (h63 : n + m ≤ maxLen) (hbytes : (n + m) * bytes ≤ 140737488355328) {v' : Value} {w' : World}
    (hr : (Builtin.append_ #[t, t] ty #[v, .slice (some a) m c]).run P w = .ok v' w') : NewRow w v v' := by
  subst hsize
  subst hby
  have hsmall : n + m ≤ 9223372036854775807 := by simp only [maxLen] at h63; omega
  rcases hown.2 with ⟨rfl, rfl⟩ | ⟨g, cap, cur, rfl, hbg, hg, hnc, hcm, hcs, htake⟩
  · by_cases hm : m = 0
    · subst hm
      have hr2 : (Builtin.append_ #[t, t] ty #[.slice none 0 0, .slice (some a) 0 c]).run P w = .ok (.slice none 0 0) w := by
        simp [Builtin.append_, run_underlying ht, sizeOf, typeInfo, hi, Builtin.lenOf, Builtin.firstCells, loadCells, loadCellsFrom]
      rw [hr2] at hr
      cases hr
      exact .inl rfl
    · have hr2 := run_append_nil (P := P) w t ty e i z ht hi hz a m c news hl hnews (by omega) (by omega) (by have hb := hbytes; simp only [Nat.zero_add] at hb; omega)
      rw [hr2] at hr
      cases hr
      exact .inr fun g hg => by simp [Value.ownBlock] at hg; omega
  · by_cases hroom : n + m ≤ cap
    · have hfit : n * i.size + news.length ≤ cur.size := by rw [hl, hcs, ← Nat.add_mul]; exact Nat.mul_le_mul_right _ hroom
      have hr2 := run_append_room (P := P) w t ty e i ht hi g n cap cur hg a m c news hl hnews h1 hroom hfit
      rw [hr2] at hr
      cases hr
      exact .inl rfl
    · have holds : ∀ j u, xs[j]? = some u → w.cell? ((⟨g, 0, none⟩ : Addr).add j) = some u := hown.cells (g := g) rfl
      have hr2 := run_append_grow (P := P) w t ty e i z ht hi hz ⟨g, 0, none⟩ n cap xs hown.1 holds a m c news hl hnews (by omega) (by omega) (growslice_fits (by omega) hbytes)
      rw [hr2] at hr
      cases hr
      exact .inr fun g hg => by simp [Value.ownBlock] at hg; omega
theorem run_append_src2 (w : World) (base : Nat) (t ty e : TypeId) (i : TypeInfo) (z : Value) (size bytes : Nat) (ht : P.underlying t = some (.slice e)) (hi : P.info? e = some i) (hz : i.zero = some z)
    (hsize : i.size = size) (hby : i.bytes = bytes) (hzs : z.cells.size = size) (hsz : 0 < size)
    (v : Value) (n : Nat) (xs : List Value) (hown : w.ownsRow base e size v n xs) (A : Option Addr) (m c : Nat) (news : List Value) (hl : news.length = m * size) (hnil : A = none → m = 0)
    (hc : ∀ ad, A = some ad → 0 < m → ∀ j u, news[j]? = some u → w.cell? (ad.add j) = some u) (h1 : ∀ u ∈ news, u.oneCell' = true)
    (h63 : n + m ≤ maxLen) (hbytes : (n + m) * bytes ≤ 140737488355328) (hbase : base ≤ w.heap.size) :
    ∃ v' w', (Builtin.append_ #[t, t] ty #[v, .slice A m c]).run P w = .ok v' w' ∧ w'.ownsRow base e size v' (n + m) (xs ++ news) ∧ w.grownBy w' v.ownBlock ∧ NewRow w v v' := by
  cases A with
  | none =>
    obtain rfl := hnil rfl
    obtain rfl : news = [] := List.eq_nil_of_length_eq_zero (by simpa using hl)
    refine ⟨v, w, ?_, by simpa using hown, ⟨rfl, rfl, rfl, Nat.le_refl _, fun _ _ _ => rfl⟩, .inl rfl⟩
    rcases hown.2 with ⟨rfl, rfl⟩ | ⟨g, cap, cur, rfl, _, _, hnc, _⟩
    · simp [Builtin.append_, run_underlying ht, sizeOf, typeInfo, hi, Builtin.lenOf, Builtin.firstCells]
    · simp [Builtin.append_, run_underlying ht, sizeOf, typeInfo, hi, Builtin.lenOf, Builtin.firstCells, hnc, storeCells]
  | some ad =>
    have hc' : ∀ j u, news[j]? = some u → w.cell? (ad.add j) = some u := by
      intro j u hu
      rcases Nat.eq_zero_or_pos m with h0 | h0
      · subst h0
        obtain rfl : news = [] := List.eq_nil_of_length_eq_zero (by simpa using hl)
        simp at hu
      · exact hc ad rfl h0 j u hu
    obtain ⟨v', w', hr, h2, h3, _⟩ := run_append_own (P := P) w base t ty e i z size bytes ht hi hz hsize hby hzs hsz v n xs hown ad m c news hl hc' h1 h63 hbytes hbase
    exact ⟨v', w', hr, h2, h3, append_where w base t ty e i z size bytes ht hi hz hsize hby hzs hsz v n xs hown ad m c news hl hc' h1 h63 hbytes hr⟩
theorem wp_append_src2 (w : World) {o : Oper} {a : Act} {K : Act → World → Prop} {Q : Exit → Act → World → Prop} (s x : Operand) (t : TypeId)
    (ho : o.op = .call { callee := .builtin .append, args := #[s, x], argTypes := #[t, t] })
    (base : Nat) (e : TypeId) (i : TypeInfo) (z : Value) (size bytes : Nat) (ht : P.underlying t = some (.slice e)) (hi : P.info? e = some i) (hz : i.zero = some z)
    (hsize : i.size = size) (hby : i.bytes = bytes) (hzs : z.cells.size = size) (hsz : 0 < size)
    (v : Value) (n : Nat) (xs : List Value) (hs : a.eval s = v) (hown : w.ownsRow base e size v n xs)
    (A : Option Addr) (m c : Nat) (news : List Value) (hx : a.eval x = .slice A m c) (hl : news.length = m * size) (hnil : A = none → m = 0)
    (hc : ∀ ad, A = some ad → 0 < m → ∀ j u, news[j]? = some u → w.cell? (ad.add j) = some u) (h1 : ∀ u ∈ news, u.oneCell' = true)
    (h63 : n + m ≤ maxLen) (hbytes : (n + m) * bytes ≤ 140737488355328) (hbase : base ≤ w.heap.size)
    (h : ∀ A' c' w', w'.ownsRow base e size (.slice A' (n + m) c') (n + m) (xs ++ news) → w.grownBy w' v.ownBlock → NewRow w v (.slice A' (n + m) c') → K (a.put o.dst (.slice A' (n + m) c')) w') : o.wp P a w K Q := by
  obtain ⟨v', w', hr, h2, h3, h4⟩ := run_append_src2 (P := P) w base t o.type e i z size bytes ht hi hz hsize hby hzs hsz v n xs hown A m c news hl hnil hc h1 h63 hbytes hbase
  unfold Oper.wp execOp
  simp only [ho, resolve, invoke, builtin, Sem.run_bind, Sem.run_pure, Result.andThen_ok, List.map_toArray, List.map_cons, List.map_nil, hs, hx, hr]
  obtain ⟨A', c', rfl⟩ := own_slice h2
  exact h A' c' w' h2 h3 h4
theorem wpList_append_src2 (w : World) {ops : Array Oper} {rest : List Oper} {o : Oper} {a : Act} {Q : Exit → Act → World → Prop} (hgd : o.guard = none) (s x : Operand) (t : TypeId)
    (ho : o.op = .call { callee := .builtin .append, args := #[s, x], argTypes := #[t, t] })
    (base : Nat) (e : TypeId) (i : TypeInfo) (z : Value) (size bytes : Nat) (ht : P.underlying t = some (.slice e)) (hi : P.info? e = some i) (hz : i.zero = some z)
    (hsize : i.size = size) (hby : i.bytes = bytes) (hzs : z.cells.size = size) (hsz : 0 < size)
    (v : Value) (n : Nat) (xs : List Value) (hs : a.eval s = v) (hown : w.ownsRow base e size v n xs)
    (A : Option Addr) (m c : Nat) (news : List Value) (hx : a.eval x = .slice A m c) (hl : news.length = m * size) (hnil : A = none → m = 0)
    (hc : ∀ ad, A = some ad → 0 < m → ∀ j u, news[j]? = some u → w.cell? (ad.add j) = some u) (h1 : ∀ u ∈ news, u.oneCell' = true)
    (h63 : n + m ≤ maxLen) (hbytes : (n + m) * bytes ≤ 140737488355328) (hbase : base ≤ w.heap.size)
    (h : ∀ A' c' w', w'.ownsRow base e size (.slice A' (n + m) c') (n + m) (xs ++ news) → w.grownBy w' v.ownBlock → NewRow w v (.slice A' (n + m) c') → wpList P ops Q rest (a.put o.dst (.slice A' (n + m) c')) w') : wpList P ops Q (o :: rest) a w :=
  wpList_plain hgd fun _ hK => wp_append_src2 w s x t ho base e i z size bytes ht hi hz hsize hby hzs hsz v n xs hs hown A m c news hx hl hnil hc h1 h63 hbytes hbase fun A' c' w' h2 h3 h4 => hK _ _ (h A' c' w' h2 h3 h4)
end

/-! ### a board whose lists do not lie in the blocks of G -/
theorem MapF.unique {κ : Type} {enc : κ → Value} {w : World} {r : Nat} {ks : List κ} {f f' : κ → Option Value} (h : MapF enc w r ks f) (h' : MapF enc w r ks f') : f = f' := by
  obtain ⟨es, cl, hb, _, hk, he, hn⟩ := h
  obtain ⟨es', cl', hb', _, hk', he', hn'⟩ := h'
  rw [hb] at hb'
  cases hb'
  funext k
  by_cases hm : k ∈ ks
  · obtain ⟨i, hi⟩ := List.mem_iff_getElem?.1 hm
    have hlt : i < es.toList.length := by
      have h1 := (List.getElem?_eq_some_iff.1 hi).1
      have h2 := congrArg List.length hk
      rw [List.length_map, List.length_map] at h2
      omega
    have hx : es.toList[i]? = some (es.toList[i]) := List.getElem?_eq_getElem hlt
    rw [he i k _ hi hx, he' i k _ hi hx]
  · rw [hn k hm, hn' k hm]
/-- list k of the map f does not lie in G -/
def Clear (f : Int → Option Value) (k : Int) (G : Nat → Prop) : Prop := ∀ A m c, f k = some (.slice A m c) → 0 < m → ∀ b o, A = some ⟨b, o, none⟩ → ¬ G b
structure BdA (w : World) (p r : Nat) (s : BS) (G : Nat → Prop) : Prop where
  bd : BdS w p r s
  av : ∀ f, MapF (Value.int .i64) w r s.ks f → ∀ k ∈ s.ks, Clear f k G
section
variable {w w' : World} {p r : Nat} {s s' : BS} {G G' : Nat → Prop}
theorem BdA.of_nil (h : BdS w p r s) (hk : s.ks = []) : BdA w p r s G := ⟨h, fun f _ k hk' => by rw [hk] at hk'; cases hk'⟩
theorem BdA.lists (h : BdA w p r s G) : ∃ f, MapF (Value.int .i64) w r s.ks f ∧ ∀ k ∈ s.ks, ∃ A m c, f k = some (.slice A m c) ∧ m ≤ c ∧ SlE w A m (s.cur k) ∧ (0 < m → ∀ b o, A = some ⟨b, o, none⟩ → ¬ G b) := by
  obtain ⟨f, hf, hl⟩ := h.bd.map
  refine ⟨f, hf, fun k hk => ?_⟩
  obtain ⟨A, m, c, h1, h2, h3⟩ := hl k hk
  exact ⟨A, m, c, h1, h2, h3, h.av f hf k hk A m c h1⟩
/-- but for G's blocks all that was there is as it was -/
theorem BdA.grown (h : BdA w p r s G) (hb : ∀ k, k < w.heap.size → ¬ G k → w'.heap[k]? = w.heap[k]?) (hp : ¬ G p) (hr : ¬ G r) (hG : ∀ b, G' b → b < w.heap.size → G b) : BdA w' p r s G' := by
  obtain ⟨f, hf, hl⟩ := h.lists
  have hrr := hb r h.bd.rlt hr
  have hf' := hf.kept hrr
  refine ⟨⟨(hb p h.bd.plt hp).trans h.bd.blk, ⟨f, hf', fun k hk => ?_⟩, h.bd.off, h.bd.rng, h.bd.small⟩, fun f2 hf2 k hk A m c h1 hm b o hA hGb => ?_⟩
  · obtain ⟨A, m, c, h1, h2, h3, h4⟩ := hl k hk
    refine ⟨A, m, c, h1, h2, h3.1, fun hn => ?_⟩
    obtain ⟨b, off, cs, fz, rfl, hbb, hc⟩ := h3.2 hn
    exact ⟨b, off, cs, fz, rfl, (hb b (lt_of_heap hbb) (h4 hn b off rfl)).trans hbb, hc⟩
  · obtain rfl := MapF.unique hf' hf2
    obtain ⟨A', m', c', h1', h2', h3', h4'⟩ := hl k hk
    rw [h1] at h1'
    cases h1'
    obtain ⟨b', off', cs, fz, e, hbb, hc⟩ := h3'.2 hm
    have e2 := hA.symm.trans e
    cases e2
    exact h4' hm _ _ hA (hG b hGb (lt_of_heap hbb))
theorem BdA.below (h : BdA w p r s G) (hb : Below w.heap.size w w') (hp : ¬ G p) (hr : ¬ G r) : BdA w' p r s G := h.grown (fun k hk _ => hb.block k hk) hp hr fun _ h _ => h
/-- behind a call that changes the board -/
theorem BdA.after (h : BdA w p r s G) (hb : BdS w' p r s') (hk : KeepF w w' r s.ks s'.ks (fun k => k ∈ s.ks)) (hn : ∀ f k, MapF (Value.int .i64) w' r s'.ks f → k ∈ s'.ks → k ∉ s.ks → Clear f k G) : BdA w' p r s' G := by
  obtain ⟨f, hf, hl⟩ := h.lists
  obtain ⟨f', hf', h3⟩ := hk f hf
  refine ⟨hb, fun f2 hf2 k hk2 => ?_⟩
  by_cases hks : k ∈ s.ks
  · obtain rfl := MapF.unique hf' hf2
    intro A m c h1
    rw [h3 k hk2 hks] at h1
    obtain ⟨A', m', c', h1', h2', h3', h4'⟩ := hl k hks
    rw [h1] at h1'
    cases h1'
    exact h4'
  · exact hn f2 k hf2 hk2 hks
end
/-- a new list -/
def Fresh (w : World) (A : Option Addr) : Prop := ∀ b o, A = some ⟨b, o, none⟩ → w.heap.size ≤ b
theorem Fresh.none (w : World) : Fresh w none := fun _ _ h => by cases h
theorem Fresh.of_own {w w' : World} {base n m c : Nat} {A : Option Addr} {xs : List Value} (h : w'.ownsRow base 51 4 (.slice A m c) n xs) (hb : w.heap.size ≤ base) : Fresh w A := fun b o hA => Nat.le_trans hb (h.lt b (by rw [hA]; rfl)).1
theorem show_av (w : World) (p r : Nat) (s : BS) (t : Int) (A : Option Addr) (m cap : Nat) (l : List Eff) (G : Nat → Prop) (h : BdA w p r s G) (hp : ¬ G p) (hr : ¬ G r) (hG : ∀ b, G b → b < w.heap.size) (hm : m ≤ 1000000) (hx : SlE w A m l) (err : Int) (herr : wrong s.bnd t l = err)
    (s1 s2 : List Eff) (n1 n2 : Nat) (s' : BS) (h1 : s.s1 t l = s1) (h2 : s.s2 t l = s2) (hn1 : s1.length = n1) (hn2 : s2.length = n2) (hs : s.show t l = s') :
    Calls Try.prog 17 #[.pointer (some ⟨p, 0, none⟩), .int .i64 t, .slice A m cap] w fun e w' => ∃ A1 c1 A2 c2, e = .returned (.tuple #[.slice A1 n1 c1, .slice A2 n2 c2, .int .i64 err]) ∧
      n1 ≤ c1 ∧ n2 ≤ c2 ∧ SlE w' A1 n1 s1 ∧ SlE w' A2 n2 s2 ∧ Fresh w A1 ∧ Fresh w A2 ∧ BdA w' p r s' G ∧ Kept p r w w' := by
  subst herr h1 h2 hn1 hn2 hs
  by_cases he : wrong s.bnd t l = 0
  · unfold BS.s1 BS.s2 BS.show
    rw [if_pos he, if_pos he, if_pos he, he]
    refine (show_yes w p r s.ks s.cur s.bnd t A m cap l h.bd hx he).mono ?_
    rintro e w' ⟨v1, v2, wm, rfl, hs, hb, h1, h2⟩
    obtain ⟨A1, c1, rfl, hs1, hc1⟩ := Sl.of_own Eff.cells_len h1 rfl
    obtain ⟨A2, c2, rfl, hs2, hc2⟩ := Sl.of_own Eff.cells_len h2 rfl
    refine ⟨A1, c1, A2, c2, rfl, hc1, hc2, hs1, hs2, Fresh.of_own h1 hs.kept.size, Fresh.of_own h2 hs.kept.size, ?_, hs.kept.trans (Kept.of_below hb)⟩
    refine BdA.below (w := wm) ?_ hb hp hr
    -- the board behind the store
    obtain ⟨f, hf, hl⟩ := h.lists
    obtain ⟨f', hf', h3⟩ := hs.keepf f hf
    refine ⟨hs.bd, fun f2 hf2 k hk => ?_⟩
    obtain rfl := MapF.unique hf' hf2
    by_cases hkt : k = t
    · subst hkt
      have hl0 : l ≠ [] := by
        rw [show (BS.mk (ksOf s.ks k l) (curOf s.cur k l) s.bnd).ks = ksOf s.ks k l from rfl, ksOf_mem, if_pos rfl] at hk
        exact hk
      obtain ⟨f3, v, hf3, hft, hv⟩ := hs.row hl0
      obtain rfl := MapF.unique hf' hf3
      intro A' m' c' h1' hm' b o hA hGb
      rw [hft] at h1'
      cases h1'
      have := (hv.lt b (by rw [hA]; rfl)).1
      have := hG b hGb
      omega
    · intro A' m' c' h1'
      have hks : k ∈ s.ks := by
        rw [show (BS.mk (ksOf s.ks t l) (curOf s.cur t l) s.bnd).ks = ksOf s.ks t l from rfl, ksOf_mem, if_neg hkt] at hk
        exact hk
      rw [h3 k hk hkt] at h1'
      obtain ⟨A2', m2', c2', g1, g2, g3, g4⟩ := hl k hks
      rw [h1'] at g1
      cases g1
      exact g4
  · unfold BS.s1 BS.s2 BS.show
    rw [if_neg he, if_neg he, if_neg he]
    refine (show_no w p r s.ks s.cur s.bnd t A m cap l h.bd hm hx he).mono ?_
    rintro e w' ⟨rfl, hb⟩
    exact ⟨none, 0, none, 0, rfl, Nat.le_refl _, Nat.le_refl _, Sl.nil, Sl.nil, Fresh.none _, Fresh.none _, h.below hb hp hr, Kept.of_below hb⟩
theorem conf_av (w : World) (p r : Nat) (s : BS) (t : Int) (G : Nat → Prop) (h : BdA w p r s G) (hp : ¬ G p) (hr : ¬ G r) (out : List Eff) (n : Nat) (s' : BS) (ho : s.out t = out) (hn : out.length = n) (hs : s.conf t = s') :
    Calls Try.prog 15 #[.pointer (some ⟨p, 0, none⟩), .int .i64 t] w fun e w' => ∃ A c, e = .returned (.slice A n c) ∧ n ≤ c ∧ SlE w' A n out ∧ Fresh w A ∧ BdA w' p r s' G ∧ Kept p r w w' := by
  subst hs ho hn
  by_cases ht : t ≤ s.bnd
  · refine (confirm_nop w p r s.ks s.cur s.bnd t h.bd ht).mono ?_
    rintro e w' ⟨rfl, rfl⟩
    unfold BS.out BS.conf confOut confKs confCur
    rw [if_pos ht, if_pos ht, if_pos ht, show max s.bnd t = s.bnd by omega]
    exact ⟨none, 0, rfl, Nat.le_refl _, Sl.nil, Fresh.none _, h, Kept.refl _ _ _⟩
  · refine (confirm_prog w p r s.ks s.cur s.bnd t h.bd (by omega)).mono ?_
    rintro e w' ⟨v, rfl, h1, h2, h3, h4⟩
    obtain ⟨A1, c1, rfl, hs1, hc1⟩ := Sl.of_own Eff.cells_len h1 rfl
    unfold BS.out BS.conf confOut confKs confCur
    rw [if_neg ht, if_neg ht, if_neg ht, show max s.bnd t = t by omega]
    refine ⟨A1, c1, rfl, hc1, hs1, Fresh.of_own h1 (Nat.le_refl _), h.after h2 (fun f0 hf0 => ?_) (fun f k _ hk hks => absurd (List.mem_filter.1 hk).1 hks), h3⟩
    obtain ⟨f, hf, hl⟩ := h4 f0 hf0
    exact ⟨f, hf, fun k hk _ => hl k hk trivial⟩
end Go.Proofs.Ytllcankinjomaaa
