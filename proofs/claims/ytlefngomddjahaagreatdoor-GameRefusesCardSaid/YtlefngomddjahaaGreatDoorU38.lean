/- The interpreter for closed calls: appends and copies. -/
import Derived.Test.YtlefngomddjahaaGreatDoorU37
namespace Go.Proofs.YtlefngomddjahaaGreatDoor
set_option linter.unusedSimpArgs false
set_option linter.unusedVariables false
open Go.RowKit
/-- the handles from n to n' are new -/
structure Ext (ν ν' : Nu) (n n' : Nat) : Prop where
  le : n ≤ n'
  out : ∀ h, (h < n ∨ n' ≤ h) → ν' h = ν h
def Fr (ν : Nu) (n n' : Nat) : Prop := ∀ h, n ≤ h → h < n' → ν h = none
theorem Ext.sub {ν ν' : Nu} {n n' : Nat} (h : Ext ν ν' n n') (hf : Fr ν n n') : ν.Le ν' := fun k x hx => by
  rw [h.out k]; exact hx
  rcases Nat.lt_or_ge k n with h1 | h1
  · exact .inl h1
  · rcases Nat.lt_or_ge k n' with h2 | h2
    · rw [hf k h1 h2] at hx; cases hx
    · exact .inr h2
theorem Ext.refl (ν : Nu) (n : Nat) : Ext ν ν n n := ⟨Nat.le_refl _, fun _ _ => rfl⟩
theorem Ext.trans {a b c : Nu} {n m k : Nat} (h : Ext a b n m) (h' : Ext b c m k) : Ext a c n k :=
  ⟨Nat.le_trans h.le h'.le, fun i hi => by
    have h1 := h.le
    have h2 := h'.le
    rw [h'.out i (by omega), h.out i (by omega)]⟩
theorem Ext.fr {a b : Nu} {n m k : Nat} (h : Ext a b n m) (hf : Fr a n k) (hm : m ≤ k) : Fr b m k := fun i h1 h2 => by
  have := h.le
  rw [h.out i (.inr h1)]; exact hf i (by omega) h2
theorem Ext.upd {ν : Nu} {n r K : Nat} : Ext ν (ν.upd n r K) n (n + 1) := ⟨by omega, fun h hh => Nu.upd_ne (by omega)⟩
section ap
variable {ν ν' : Nu} {P : Program} {G N : Nat} {T T' : Tr Value} {a : Act} {H H' : AH} {F : HL} {w w' : World}
/-- what an operation that changes blocks leaves -/
structure Effi (P : Program) (ν : Nu) (F : HL) (n : Nat) (s : Sem Value) (w : World) (v : Value) (H' : AH) (n' : Nat) : Prop where
  h : ∃ ν' v' w', s.run P w = .ok v' w' ∧ VRi ν' v v' ∧ Ext ν ν' n n' ∧ HR ν' H' F w' ∧ Below 0 w w'
theorem srcA_ok {k : Nat} {u e' : TypeId} {y y' : Value} {new : List Value} (hH : HR ν H F w) (hu : P.underlying u = some (.slice e')) (hy : VRi ν y y') (h : srcA H k y = some new) :
    ∃ new', LR ν new new' ∧ new'.length = lenV y * k ∧ (flatL new = true → Src P k u y' (lenV y) new' w) ∧ (Builtin.firstCells k (lenV y) y').run P w.drew = .ok new'.toArray w.drew ∧ (Builtin.firstCells k (lenV y) y').run P w = .ok new'.toArray w := by
  unfold srcA at h
  split at h
  · split at h
    · cases h
      rename_i c
      cases hy
      refine ⟨[], .nil, by simp [lenV], fun _ => Src.ofNil w hu _, ?_, ?_⟩
      · exact run_firstCells_none _ _ _ _ _
      · exact run_firstCells_none _ _ _ _ _
    · cases h
  · rename_i ad n c
    cases hy with
    | atom _ h => simp [atomV] at h
    | @slice hd b K _ c' o _ hν hcap =>
    split at h
    case h_2 => cases h
    rename_i nn tr ty ww ro hs hb
    split at h
    case h_2 => cases h
    rename_i hle
    cases h
    simp only at hb hle
    obtain ⟨cc, ty', fz, hw, hc⟩ := hH.cells hb hν
    have hle' := le_of_ble hle
    have hl := readN_rel hc.le hc.get (n * k) o hle'
    have hcs := hc.le
    have hlen : ((cc.toList.drop o).take (n * k)).length = n * k := by simp; omega
    have hcell : ∀ (W : World), W.heap = w.heap → ∀ (j : Nat) (u : Value), ((cc.toList.drop o).take (n * k))[j]? = some u → W.cell? ((⟨b, o, none⟩ : Addr).add j) = some u := fun W hW j u hj => by
      rw [add_eq, cell_of (by rw [hW]; exact hw)]
      have hjl := (List.getElem?_eq_some_iff.1 hj).1
      rw [hlen] at hjl
      rw [List.getElem?_take_of_lt hjl, List.getElem?_drop] at hj
      simpa using hj
    refine ⟨_, hl, hlen, fun hf => Src.ofSlice w hu _ _ _ _ hlen (hcell w rfl) (flatL_one hl hf), ?_, ?_⟩
    · exact run_firstCells_some _ _ _ _ _ _ _ hlen (hcell _ rfl)
    · exact run_firstCells_some _ _ _ _ _ _ _ hlen (hcell _ rfl)
  · cases h
theorem HR.del' (hH : HR ν H F w) {h r K : Nat} {b0 : AB} (hb : hget H h = some b0) (hw0 : wrb b0 = true) (hν : ν h = some (r, K)) (hs : ∀ k, k ≠ r → w'.heap[k]? = w.heap[k]?) : HR ν (hset H h none) F w' := by
  have old : ∀ k b, hget (hset H h none) k = some b → hget H k = some b ∧ k ≠ h := fun k b hk => by
    rw [hget_set] at hk
    split at hk
    · cases hk
    · rename_i e; exact ⟨hk, Ne.symm e⟩
  refine ⟨fun k b hk => ?_, fun k1 k2 b1 b2 q K1 K2 h1 h2 h3 h4 => hH.inj _ _ _ _ _ _ _ (old _ _ h1).1 (old _ _ h2).1 h3 h4, fun x hx => ?_, fun k b q K hk => hH.apt k b q K (old k b hk).1⟩
  · obtain ⟨h1, h2⟩ := old k b hk
    obtain ⟨q, K', o, g1, g2, g3⟩ := hH.blk k b h1
    refine ⟨q, K', o, g1, ?_, g3⟩
    rw [hs q, g2]
    intro e
    subst e
    exact h2 (hH.inj _ _ _ _ _ _ _ h1 hb g1 hν)
  · rw [hs _ (hH.apt _ _ _ _ hb hν x hx)]
    exact hH.frm x hx
theorem nsc_le (need old : Nat) (h : old < need) : Builtin.nextslicecap need old ≤ 2 * need + 192 := by
  unfold Builtin.nextslicecap
  split
  · omega
  · split
    · omega
    · have : Builtin.growBy need 4 old ≤ need + need / 4 + 192 := by
        simp only [Builtin.growBy]
        repeat' split
        all_goals omega
      omega
/-- there is room for certain -/
theorem appIn_ok {t u ty el e' : TypeId} {inf : TypeInfo} {n len cap c' : Nat} {base base' : Option Addr} {y y' : Value} {new : List Value} {v : Value} {n' : Nat} (hH : HR ν H F w) (ht : P.underlying t = some (.slice el)) (hu : P.underlying u = some (.slice e')) (hi : P.info? el = some inf)
    (hx : VRi ν (.slice base len cap) (.slice base' len c')) (hy : VRi ν y y') (hsrc : srcA H inf.size y = some new) (hfl : flatL new = true) (hroom : len + lenV y ≤ c') (h : appIn H n inf.size len (lenV y) cap base new = some (.val v H' n')) :
    Effi P ν F n (Builtin.append_ #[t, u] ty #[.slice base' len c', y']) w v H' n' := by
  obtain ⟨new', hl, hlen, hS, -, -⟩ := srcA_ok hH hu hy hsrc
  have hS2 := hS hfl
  unfold appIn at h
  split at h
  · rename_i ad
    split at h
    · rename_i hsp
      split at h
      · rename_i H2 hp
        cases h
        cases hx with
        | atom _ h => simp [atomV] at h
        | @slice hd b K _ _ o _ hν hcap =>
        obtain ⟨q1, q2, q3, q4, q5⟩ := putSeg_ok hH hν hl hp
        have hrun := run_append_room_src (P := P) w t u ty el inf ht hi b o len c' y' (lenV y) new' hS2 hroom q1 q2
        exact ⟨ν, _, _, hrun, .slice _ _ hν hcap, .refl _ _, q4, q5⟩
      · cases h
    · cases h
  · split at h
    · cases h
      cases hx with
      | atom _ _ =>
      cases hl
      have hS3 := hS hfl
      have hz : (Builtin.firstCells inf.size (lenV y) y').run P w = .ok #[] w := hS3.cells
      refine ⟨ν, .slice none (len + lenV y) cap, w, ?_, .atom _ rfl, .refl _ _, hH, Below.refl _ _⟩
      rcases hS3.kind with ⟨e', hk⟩ | hk <;> simp [Builtin.append_, run_underlying ht, run_underlying hk, sizeOf, typeInfo, hi, hS3.len, hz, hroom]
    · cases h
/-- there is no room for certain -/
theorem appNew_ok {t u ty el e' : TypeId} {inf : TypeInfo} {z : List Value} {n len cap c' : Nat} {base base' : Option Addr} {y y' : Value} {old new : List Value} {v : Value} {n' : Nat} (hH : HR ν H F w) (ht : P.underlying t = some (.slice el)) (hu : P.underlying u = some (.slice e')) (hi : P.info? el = some inf) (hz : zeroT P el = some z) (hzl : z.length = inf.size) (hsz : 0 < inf.size)
    (hx : VRi ν (.slice base len cap) (.slice base' len c')) (hy : VRi ν y y') (hsrc : srcA H inf.size y = some new) (hfl : flatL new = true) (hold : srcA H inf.size (.slice base len cap) = some old) (hroom : c' < len + lenV y) (hb1 : len + lenV y < 1000000) (hb2 : inf.bytes < 1000001) (hn : ν n = none)
    (Hd : AH) (hd : ∀ ν' w', HR ν' H F w' → HR ν' Hd F w') (h : appNew Hd n inf.size len (lenV y) el old new = .val v H' n') :
    Effi P ν F n (Builtin.append_ #[t, u] ty #[.slice base' len c', y']) w v H' n' := by
  obtain ⟨new', hl, hlen, hS, -, -⟩ := srcA_ok hH hu hy hsrc
  obtain ⟨old', hl2, hlen2, -, hold', -⟩ := srcA_ok hH ht hx hold
  have hS := hS hfl
  obtain ⟨zv, g1, g2, g3, i, g4, g5⟩ := zeroT_run (ν := ν) hz
  rw [hi] at g4
  cases g4
  have hfit : Builtin.nextslicecap (len + lenV y) c' * inf.bytes ≤ 281474976710656 := by
    have h1 := nsc_le (len + lenV y) c' hroom
    have h2 : Builtin.nextslicecap (len + lenV y) c' * inf.bytes ≤ 2000192 * 1000000 := Nat.mul_le_mul (by omega) (by omega)
    omega
  have hrun := run_append_grow_src (P := P) w t u ty el inf zv ht hi g5 base' len c' old' hold' y' (lenV y) new' hS hroom (by omega) hfit
  have hge := grownCap_ge w (len + lenV y) c' el
  generalize grownCap w (len + lenV y) c' el = K at *
  unfold appNew at h
  cases h
  refine ⟨ν.upd n w.heap.size K, _, _, hrun, ?_, .upd, ?_, ⟨rfl, rfl, rfl, by simp, fun k hk => by omega⟩⟩
  · exact .slice _ _ Nu.upd_self ⟨fun e => by unfold unk at e; omega, fun e => by omega⟩
  · have hd1 : HR ν Hd F w := hd _ _ hH
    refine hd1.new hn (K := K) ?_ (by rw [grownB_eq]; rfl) (o := .cells ((old' ++ new').toArray ++ Builtin.zeroCells zv.cells (K - (len + lenV y))) el) rfl
    rw [grownB_eq]
    have hcr := CR.of (ty := el) (ww := inf.size) (K := K) (rest := (Builtin.zeroCells zv.cells (K - (len + lenV y))).toList) (hl2.append hl) (fun _ => by
      simp only [List.length_append, hlen, hlen2, Builtin.zeroCells, Array.toList_map, List.length_map, Array.toList_range, List.length_range, g2]
      have hlv : lenV (Value.slice base len cap) = len := rfl
      rw [hlv]
      have : (⟨z⟩ : Array Value).size = inf.size := by simpa using hzl
      rw [this, ← Nat.add_mul, ← Nat.add_mul]
      congr 1
      omega)
    have e : ((old' ++ new').toArray ++ Builtin.zeroCells zv.cells (K - (len + lenV y))) = ⟨(old' ++ new') ++ (Builtin.zeroCells zv.cells (K - (len + lenV y))).toList⟩ := by apply Array.ext'; simp
    rw [e]
    exact hcr
end ap
end Go.Proofs.YtlefngomddjahaaGreatDoor
/- The interpreter for closed calls: every operation. -/
namespace Go.Proofs.YtlefngomddjahaaGreatDoor
set_option linter.unusedSimpArgs false
set_option linter.unusedVariables false
open Go.RowKit
section ap
variable {ν ν' : Nu} {P : Program} {G N : Nat} {T T' : Tr Value} {a : Act} {H H' : AH} {F : HL} {w w' : World}
theorem le_of_blt_false {a b : Nat} (h : Nat.blt a b = false) : b ≤ a := by
  rcases Nat.lt_or_ge a b with e | e
  · have : Nat.blt a b = true := Nat.ble_eq_true_of_le e
    rw [this] at h; cases h
  · exact e
theorem lt_of_ble_false {a b : Nat} (h : Nat.ble a b = false) : b < a := by
  rcases Nat.lt_or_ge b a with e | e
  · exact e
  · have : Nat.ble a b = true := Nat.ble_eq_true_of_le e
    rw [this] at h; cases h
theorem appU_ok {t u ty el e' : TypeId} {inf : TypeInfo} {z : List Value} {n len cap : Nat} {ad : Addr} {x' y y' : Value} {new : List Value} {v : Value} {n' : Nat} (hH : HR ν H F w) (ht : P.underlying t = some (.slice el)) (hu : P.underlying u = some (.slice e')) (hi : P.info? el = some inf) (hz : zeroT P el = some z) (hzl : z.length = inf.size) (hsz : 0 < inf.size)
    (hx : VRi ν (.slice (some ad) len cap) x') (hy : VRi ν y y') (hsrc : srcA H inf.size y = some new) (hfl : flatL new = true) (hb1 : len + lenV y < 1000000) (hb2 : inf.bytes < 1000001) (hcap : unk ≤ cap) (hn : Fr ν n n') (h : appU H n inf.size len (lenV y) cap ad el new = some (.val v H' n')) :
    Effi P ν F n (Builtin.append_ #[t, u] ty #[x', y']) w v H' n' := by
  cases hx with
  | atom _ h => simp [atomV] at h
  | @slice hd b K _ c' o _ hν hc =>
  unfold appU at h
  split at h
  case h_2 => cases h
  rename_i nn ww tyy hsp ho hcu hwid
  simp only at ho
  subst ho
  have hcap2 : cap = unk := Nat.eq_of_beq_eq_true hcu
  have hc' := hc.2 hcap
  rw [hcap2, Nat.sub_self, Nat.add_zero] at hc'
  unfold wid at hwid
  split at hwid
  case h_2 => cases hwid
  rename_i nn' tr ty' ww' hb
  simp only [Option.some.injEq, Prod.mk.injEq] at hwid
  obtain ⟨e1, e2, e3⟩ := hwid
  subst e1; subst e2; subst e3
  simp only at hb
  obtain ⟨c, ty2, fz, hw, hcr⟩ := hH.cells hb hν
  split at h
  case h_2 => cases h
  rename_i hwk hlk hty
  have hty' : ty' = el := Nat.eq_of_beq_eq_true hty
  have hwk' : ww' = inf.size := Nat.eq_of_beq_eq_true hwk
  have hlk' := le_of_ble hlk
  have hsize := hcr.gr (by omega)
  rw [hwk'] at hsize
  have hle := hcr.le
  split at h
  · rename_i hin
    have hin' := le_of_ble hin
    have : (len + lenV y) * inf.size ≤ K * inf.size := by omega
    have hroom := Nat.le_of_mul_le_mul_right this hsz
    exact appIn_ok hH ht hu hi (.slice 0 len hν hc) hy hsrc hfl (by omega) h
  · rename_i hin
    have hin' := lt_of_ble_false hin
    split at h
    case h_2 => cases h
    rename_i old hold
    have hval : appNew (hset H hd none) n inf.size len (lenV y) el old new = .val v H' n' := by simpa using h
    have hn' : ν n = none := by
      unfold appNew at hval
      cases hval
      exact hn n (Nat.le_refl _) (by omega)
    by_cases hroom : len + lenV y ≤ c'
    · obtain ⟨new', hl, hlen, hS, -, -⟩ := srcA_ok hH hu hy hsrc
      obtain ⟨old', hl2, hlen2, -, -, hold'⟩ := srcA_ok hH ht (.slice 0 len hν hc) hold
      have hS := hS hfl
      have hfit : (len + lenV y) * inf.size ≤ c.size := by
        rw [hsize]; exact Nat.mul_le_mul_right _ (by omega)
      have hcell : ∀ j, j < new'.length → (w.cell? ⟨b, 0 + len * inf.size + j, none⟩).isSome = true := fun j hj => by
        rw [cell_of hw, Array.getElem?_eq_getElem (by rw [hlen] at hj; rw [Nat.add_mul] at hfit; omega)]; rfl
      have hfrz : ∀ j, j < new'.length → w.frozen? ⟨b, 0 + len * inf.size + j, none⟩ = false := fun j hj => by
        obtain ⟨lo, hi⟩ := fz
        have := hcr.fz
        cases this
        simp [World.frozen?, hw]
      have hrun := run_append_room_src (P := P) w t u ty el inf ht hi b 0 len c' y' (lenV y) new' hS hroom hcell hfrz
      obtain ⟨c2, e1, e2, e3⟩ := setCells_at b new' (0 + len * inf.size) w hw
      unfold appNew at hval
      cases hval
      have hdel : HR ν (hset H hd none) F (w.setCells b (0 + len * inf.size) new') := hH.del' hb rfl hν (fun k hk => setCells_otheri b _ _ _ _ hk)
      refine ⟨ν.upd n b K, _, _, hrun, ?_, .upd, ?_, setCells_belowi _ _ _ _⟩
      · exact .slice _ _ Nu.upd_self ⟨fun e => by unfold unk at e; omega, fun e => by omega⟩
      · refine hdel.add hn' e1 ?_ (by rw [grownB_eq]; rfl) (fun x hx => hH.apt _ _ _ _ hb hν x hx) (fun k b' K' hk e => ?_)
        · rw [grownB_eq]
          -- what stood there
          have hold2 : ∀ i, i < len * inf.size → c[i]? = old'[i]? := fun i hi => by
            have hlv : lenV (Value.slice (some ⟨hd, 0, none⟩) len cap) = len := rfl
            rw [hlv] at hlen2 hold'
            have hcells : ((c.toList.drop 0).take (len * inf.size)).length = len * inf.size := by simp; omega
            have h2 := run_firstCells_some (P := P) w inf.size len ⟨b, 0, none⟩ len c' ((c.toList.drop 0).take (len * inf.size)) hcells (fun j u hj => by
              rw [add_eq, cell_of hw]
              have hjl := (List.getElem?_eq_some_iff.1 hj).1
              rw [hcells] at hjl
              rw [List.getElem?_take_of_lt hjl, List.getElem?_drop] at hj
              simpa using hj)
            rw [h2] at hold'
            simp only [Result.ok.injEq, and_true] at hold'
            have h3 : old' = (c.toList.drop 0).take (len * inf.size) := by
              have := congrArg Array.toList hold'
              simpa using this.symm
            rw [h3, List.getElem?_take_of_lt hi]
            simp
          have hlv : lenV (Value.slice (some ⟨hd, 0, none⟩) len cap) = len := rfl
          rw [hlv] at hlen2
          have hlo : old.length = len * inf.size := by rw [← hlen2, hl2.length]
          have hln : new.length = lenV y * inf.size := by rw [← hlen, hl.length]
          refine ⟨hcr.ty.trans hty', ?_, hcr.fz, fun i hi => ?_, fun _ => by rw [e2, hsize]⟩
          · rw [e2, List.length_append, hlo, hln, ← Nat.add_mul]; exact hfit
          · have hi2 : i < (len + lenV y) * inf.size := by rw [List.length_append, hlo, hln, ← Nat.add_mul] at hi; exact hi
            obtain ⟨v', g1, g2⟩ := (hl2.append hl).get (List.getElem?_eq_getElem hi)
            refine ⟨v', ?_, by rw [ofL_get0 hi]; exact g2⟩
            rw [e3 i (by omega), ← g1]
            by_cases h1 : i < len * inf.size
            · rw [dif_neg (by omega), hold2 i h1, List.getElem?_append_left (by omega)]
            · rw [dif_pos ⟨by omega, by rw [hlen]; rw [Nat.add_mul] at hi2; omega⟩, List.getElem?_append_right (by omega), hlen2]
              rw [← List.getElem?_eq_getElem]
              congr 1; omega
        · rw [hget_set] at hk
          split at hk
          · cases hk
          · rename_i hne
            exact hne (hH.inj _ _ _ _ _ _ _ hb hk hν e)
    · exact appNew_ok hH ht hu hi hz hzl hsz (.slice 0 len hν hc) hy hsrc hfl hold (by omega) hb1 hb2 hn' (hset H hd none) (fun ν' w' h' => h'.del hd) hval
/-- heaps that differ in what lies beyond the cells -/
def HEq (H H' : AH) : Prop := ∀ h, hget H' h = hget H h ∨ ∃ n t t' ty w ro, hget H h = some (.cells n t ty w ro) ∧ hget H' h = some (.cells n t' ty w ro) ∧ ∀ i, i < n → tget t' i = tget t i
theorem HR.heq (h : HR ν H F w) (e : HEq H H') : HR ν H' F w := by
  have back : ∀ k b, hget H' k = some b → ∃ b0, hget H k = some b0 ∧ ∀ K o, OR ν K b0 o → OR ν K b o := fun k b hk => by
    rcases e k with e1 | ⟨n, t, t', ty, wd, ro, e1, e2, e3⟩
    · rw [e1] at hk; exact ⟨b, hk, fun _ _ h => h⟩
    · rw [e2] at hk
      cases hk
      refine ⟨_, e1, fun K o ho => ?_⟩
      cases o with
      | cells c ty' fz =>
        have ho : CR ν K n t ty wd c ty' fz := ho
        exact (⟨ho.ty, ho.le, ho.fz, fun i hi => by obtain ⟨v', g1, g2⟩ := ho.get i hi; exact ⟨v', g1, by rw [e3 i hi]; exact g2⟩, ho.gr⟩ : CR ν K n t' ty wd c ty' fz)
      | _ => exact ho
  refine ⟨fun k b hk => ?_, fun h₁ h₂ b₁ b₂ r K₁ K₂ g1 g2 => ?_, h.frm, fun k b r K hk => ?_⟩
  · obtain ⟨b0, g1, g2⟩ := back k b hk
    obtain ⟨r, K, o, g3, g4, g5⟩ := h.blk k b0 g1
    exact ⟨r, K, o, g3, g4, g2 K o g5⟩
  · obtain ⟨c1, d1, -⟩ := back _ _ g1
    obtain ⟨c2, d2, -⟩ := back _ _ g2
    exact h.inj _ _ _ _ _ _ _ d1 d2
  · obtain ⟨b0, g1, g2⟩ := back k b hk
    exact h.apt k b0 r K g1
theorem readN_len (t : Tr Value) : ∀ (k i : Nat), (readN t i k).length = k
  | 0, _ => rfl
  | k + 1, i => by simp [readN, readN_len t k]
theorem readN_get (t : Tr Value) : ∀ (k i j : Nat), j < k → (readN t i k)[j]? = some (tget t (i + j))
  | 0, _, _, h => absurd h (by omega)
  | k + 1, i, j, h => by
    cases j with
    | zero => simp [readN]
    | succ j => simp only [readN, List.getElem?_cons_succ]; rw [readN_get t k (i + 1) j (by omega)]; congr 2; omega
theorem contB_eq (tr : Tr Value) (i : Nat) (new : List Value) (el : TypeId) (k : Nat) : contB tr i new el k = .cells (i + new.length) (writeN tr i new) el k false := by
  unfold contB
  split <;> rename_i h <;> rw [h, lenL_eq]
theorem appU2_sim {n k len add cap : Nat} {ad : Addr} {el : TypeId} {new : List Value} {v : Value} {n' : Nat} (h : appU2 H n k len add cap ad el new = some (.val v H' n')) : ∃ H0, appU H n k len add cap ad el new = some (.val v H0 n') ∧ HEq H0 H' := by
  unfold appU2 at h
  split at h
  case h_2 => cases h
  rename_i nn tr ty w hsp ho hcu hb
  split at h
  case h_2 => cases h
  rename_i h1 h2 h3
  have hwid : wid H ad = some (nn, w, ty) := by unfold wid; rw [hb]
  split at h
  · rename_i hin
    refine ⟨H', ?_, fun h => .inl rfl⟩
    unfold appU
    rw [hsp, ho, hcu, hwid]
    simp only [h1, h2, h3, hin]
    exact h
  · rename_i hin
    cases h
    refine ⟨hset (hset H ad.block none) n (some (grownB (readN tr 0 (len * k) ++ new) el k)), ?_, fun h => ?_⟩
    · unfold appU
      rw [hsp, ho, hcu, hwid]
      simp only [h1, h2, h3, hin, srcA, hsp, hb, ho, Nat.zero_add]
      rfl
    · by_cases hh : n = h
      · refine .inr ⟨(readN tr 0 (len * k) ++ new).length, Tr.ofL undef (readN tr 0 (len * k) ++ new) 0 .lf, writeN tr (len * k) new, el, k, false, by rw [hget_set, if_pos hh, grownB_eq], ?_, fun i hi => ?_⟩
        · rw [hget_set, if_pos hh, contB_eq, List.length_append, readN_len]
        · rw [ofL_get0 hi, writeN_get]
          rw [List.length_append, readN_len] at hi
          split
          · rename_i hj
            rw [List.getElem_append_right (by rw [readN_len]; omega)]
            congr 1
            rw [readN_len]
          · rename_i hj
            have hi2 : i < len * k := by omega
            rw [List.getElem_append_left (by rw [readN_len]; exact hi2)]
            have := readN_get tr (len * k) 0 i hi2
            rw [Nat.zero_add] at this
            rw [List.getElem?_eq_getElem (by rw [readN_len]; exact hi2)] at this
            exact (Option.some.inj this).symm
      · exact .inl ((hget_set _ _ _ _).trans ((if_neg hh).trans ((if_neg hh).symm.trans (hget_set _ _ _ _).symm)))
theorem appU2_ok {t u ty el e' : TypeId} {inf : TypeInfo} {z : List Value} {n len cap : Nat} {ad : Addr} {x' y y' : Value} {new : List Value} {v : Value} {n' : Nat} (hH : HR ν H F w) (ht : P.underlying t = some (.slice el)) (hu : P.underlying u = some (.slice e')) (hi : P.info? el = some inf) (hz : zeroT P el = some z) (hzl : z.length = inf.size) (hsz : 0 < inf.size)
    (hx : VRi ν (.slice (some ad) len cap) x') (hy : VRi ν y y') (hsrc : srcA H inf.size y = some new) (hfl : flatL new = true) (hb1 : len + lenV y < 1000000) (hb2 : inf.bytes < 1000001) (hcap : unk ≤ cap) (hn : Fr ν n n') (h : appU2 H n inf.size len (lenV y) cap ad el new = some (.val v H' n')) :
    Effi P ν F n (Builtin.append_ #[t, u] ty #[x', y']) w v H' n' := by
  obtain ⟨H0, h1, h2⟩ := appU2_sim h
  obtain ⟨ν', a, b, g1, g2, g3, g4, g5⟩ := appU_ok hH ht hu hi hz hzl hsz hx hy hsrc hfl hb1 hb2 hcap hn h1
  exact ⟨ν', a, b, g1, g2, g3, g4.heq h2, g5⟩
theorem appV_ok {t u ty el e' : TypeId} {n : Nat} {x x' y y' : Value} {v : Value} {n' : Nat} (hH : HR ν H F w) (ht : P.underlying t = some (.slice el)) (hu : P.underlying u = some (.slice e')) (hx : VRi ν x x') (hy : VRi ν y y') (hn : Fr ν n n') (h : appVi P H n el x y = some (.val v H' n')) :
    Effi P ν F n (Builtin.append_ #[t, u] ty #[x', y']) w v H' n' := by
  unfold appVi at h
  split at h
  case h_2 => cases h
  rename_i inf z hi hz
  split at h
  case h_2 => cases h
  rename_i k by_ base len cap hk hby
  have hk : inf.size = k + 1 := hk
  have hby : inf.bytes = by_ + 1 := hby
  split at h
  case h_2 => cases h
  rename_i new hsrc hzl hb1 hb2
  rw [← hk] at hsrc hzl h
  have hzl' : z.length = inf.size := by rw [lenL_eq] at hzl; exact Nat.eq_of_beq_eq_true hzl
  have hb1' := blt_lt hb1
  have hb2' := blt_lt hb2
  split at h
  · rename_i hfl hcu
    have hcu' := blt_lt hcu
    have hreal : ∃ base', x' = .slice base' len cap ∧ VRi ν (.slice base len cap) (.slice base' len cap) := by
      cases hx with
      | atom _ h => exact ⟨_, rfl, .atom _ h⟩
      | slice o _ hν hc => obtain rfl := hc.1 hcu'; exact ⟨_, rfl, .slice o _ hν hc⟩
    obtain ⟨base', rfl, hr⟩ := hreal
    split at h
    · rename_i hin
      exact appIn_ok hH ht hu hi hr hy hsrc hfl (le_of_ble hin) h
    · rename_i hin
      split at h
      · rename_i old hold
        have hval : appNew H n inf.size len (lenV y) el old new = .val v H' n' := by simpa using h
        have hn' : ν n = none := by
          have hv2 := hval
          unfold appNew at hv2
          cases hv2
          exact hn n (Nat.le_refl _) (by omega)
        exact appNew_ok hH ht hu hi hz hzl' (by omega) hr hy hsrc hfl hold (lt_of_ble_false hin) hb1' (by omega) hn' H (fun _ _ h => h) hval
      · cases h
  · rename_i hfl hcu
    split at h
    · exact appU2_ok hH ht hu hi hz hzl' (by omega) hx hy hsrc hfl hb1' (by omega) (le_of_blt_false hcu) hn h
    · cases h
  · cases h
end ap
end Go.Proofs.YtlefngomddjahaaGreatDoor
