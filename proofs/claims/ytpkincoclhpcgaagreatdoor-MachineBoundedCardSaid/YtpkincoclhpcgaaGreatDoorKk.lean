/- Contracts, printed by a program. -/
import Derived.Test.YtpkincoclhpcgaaGreatDoorKj
namespace Go.Proofs.YtpkincoclhpcgaaGreatDoor
set_option linter.unusedSimpArgs false
set_option linter.unusedVariables false
open Go.RowKit
def shK (n : Int) : Int := around n 1000
def shR (n : Int) : Int := w64 (512 * w64 (1 + (w64 ((shK n).tdiv 7)).tmod 5))
def shSq (r : Int) : List V2 := [⟨w64 (0 - r), w64 (0 - r)⟩, ⟨r, w64 (0 - r)⟩, ⟨r, r⟩, ⟨w64 (0 - r), r⟩]
def shTri (r : Int) : List V2 := [⟨w64 (0 - r), w64 (0 - r)⟩, ⟨r, w64 (0 - r)⟩, ⟨0, r⟩]
def shBar (r : Int) : List V2 := [⟨w64 (-2 * r), -300⟩, ⟨w64 (2 * r), -300⟩, ⟨w64 (2 * r), 300⟩, ⟨w64 (-2 * r), 300⟩]
def shapeS (n : Int) : Int × List V2 := if (shK n).tmod 7 = 0 then (shR n, []) else if (shK n).tmod 7 = 1 then (shR n, []) else if (shK n).tmod 7 = 2 then (shR n, []) else if (shK n).tmod 7 = 3 then (0, shSq (shR n)) else if (shK n).tmod 7 = 4 then (0, shSq (shR n)) else if (shK n).tmod 7 = 5 then (0, shTri (shR n)) else (0, shBar (shR n))
/-- what a shape needs lies in T -/
def ShH (s : Shp) (T : HL) : Prop := ∀ F, (∀ x ∈ T, x ∈ F) → ShIn F s
theorem ShH.circle (r : Int) (A : Option Addr) (cap : Nat) : ShH ⟨r, [], A, cap⟩ [] := fun F _ => .circle r A cap
theorem ShH.poly (r : Int) (l : List V2) (b cap : Nat) (h3 : 3 ≤ l.length) (h4 : l.length ≤ cap) (h5 : cap ≤ 1000000) : ShH ⟨r, l, some ⟨b, 0, none⟩, cap⟩ [(b, .rows 2 cap (vrow l) 30 (0, 0))] := fun F h => .poly r l b cap (h _ (by simp)) h3 h4 h5

set_option maxHeartbeats 400000 in
set_option maxRecDepth 100000 in
theorem shapeOf_any (n : Int) (F : HL) : Sp Tryz.prog 7 #[vI n] [] F (fun u H' => ∃ x : Option Addr × Nat × HL, H' = ap [] [x.2.2] ∧ (u = shV ⟨(shapeS n).1, (shapeS n).2, x.1, x.2.1⟩ ∧ ShH ⟨(shapeS n).1, (shapeS n).2, x.1, x.2.1⟩ x.2.2)) := by
  refine Sp.of_body Tryz.func7 rfl rfl rfl [(0, vI n)] rfl ?_
  intro w0
  refine TR.convH (ap [] []) rfl ?_
  refine TR.seq ?_
  refine TR.reg ?_
  refine TL.seg 1 [] [] [0, 2] (fun n1 => [(0, vI n), (2, vP (n1 + 0) 0)]) (fun n1 => (ap [((n1 + 0), .lit [vI 0, .slice none 0 0] 35 (0, 0))] [])) (fun n1 => []) (fun n1 => []) (fun _ => by kernel_rfl) mn (fun n1 => an) ?_
  intro n1
  refine TL.fin (by kernel_rfl) ?_
  refine EX.next ?_
  refine TR.seq ?_
  refine TR.reg ?_
  let z1 : Nat × Value := (2, vP (n1 + 0) 0)
  let z2 : Nat × Blk := ((n1 + 0), .lit [vI 0, .slice none 0 0] 35 (0, 0))
  refine TL.seg0 1 [] [] [2, 5] [z1, (5, vI n)] (ap [z2] []) [] [] (fun _ => by kernel_rfl) mn an ?_
  refine TL.callp (dst := (some 6)) (f := 6) (args := #[vI n, vI 1000]) (H1 := (ap [z2] [])) (E := []) (Ob := []) [] [] [2, 6] (vI (shK n)) [z1, (6, vI (shK n))] (fun _ => by kernel_rfl) mn an (around_any n 1000 (by decide) _) (by kernel_rfl) ?_
  let z3 : Nat × Value := (3, vI (shK n))
  refine TL.seg0 1 [] [] [2, 3] [z1, z3] (ap [z2] []) [] [] (fun _ => by kernel_rfl) mn an ?_
  refine TL.fin (by kernel_rfl) ?_
  refine EX.next ?_
  refine TR.seq ?_
  refine TR.reg ?_
  let z4 := IntKind.i64.wrap (512 * (IntKind.i64.wrap (1 + ((IntKind.i64.wrap ((shK n).tdiv 7)).tmod 5))))
  let z5 : Nat × Value := (4, vI z4)
  refine TL.seg0 6 [] [] [2, 3, 4] [z1, z3, z5] (ap [z2] []) [] [] (fun _ => by kernel_rfl) mn an ?_
  refine TL.fin (by kernel_rfl) ?_
  refine EX.next ?_
  refine TR.seq ?_
  refine TR.seq ?_
  refine TR.reg ?_
  let z6 : Nat × Value := (13, vI ((shK n).tmod 7))
  refine TL.seg0 2 [] [] [2, 4, 13] [z1, z5, z6] (ap [z2] []) [] [] (fun _ => by kernel_rfl) mn an ?_
  refine TL.fin (by kernel_rfl) ?_
  refine EX.next ?_
  refine TR.block ?_
  refine TR.seq ?_
  refine TR.seq ?_
  refine TR.reg ?_
  refine TL.seg0 2 [] [] [2, 4, 13, 14] [z1, z5, z6, (14, .bool (decide ((shK n).tmod 7 = 0)))] (ap [z2] []) [] [] (fun _ => by kernel_rfl) mn an ?_
  refine TL.fin (by kernel_rfl) ?_
  refine EX.next ?_
  rcases Decidable.em ((shK n).tmod 7 = 0) with h2 | h2
  · refine TR.yes (b := decide ((shK n).tmod 7 = 0)) (by kernel_rfl) (by kernel_rfl) (decide_eq_true h2) ?_
    refine TR.skip ?_
    refine EX.next ?_
    refine TR.yes (b := decide ((shK n).tmod 7 = 0)) (by kernel_rfl) (by kernel_rfl) (decide_eq_true h2) ?_
    refine TR.seq ?_
    refine TR.reg ?_
    let z7 : Nat × Blk := ((n1 + 0), .lit [vI z4, .slice none 0 0] 35 (0, 0))
    refine TL.seg0 3 [] [.own 0, .own 0] [2] [z1] (ap [z7] []) [(n1 + 0), (n1 + 0)] [] (fun _ => by kernel_rfl) mn an ?_
    refine TL.fin (by kernel_rfl) ?_
    refine EX.next ?_
    refine TR.ret (A := [z7]) (Ts := []) (by exact fun _ _ h => h) rfl rfl [] [.own 0, .own 0] (.agg #[vI z4, .slice none 0 0]) [(n1 + 0), (n1 + 0)] [] (fun _ => by kernel_rfl) mn an [] [0] [] [] [] (by kernel_rfl) (by kernel_rfl) (by kernel_rfl) ?_
    have e : shapeS n = (shR n, []) := by simp only [shapeS, if_pos h2]
    rw [e]
    exact ⟨(none, 0, []), rfl, rfl, ShH.circle _ _ _⟩
  · refine TR.no (b := decide ((shK n).tmod 7 = 0)) (by kernel_rfl) (by kernel_rfl) (decide_eq_false h2) ?_
    refine TR.seq ?_
    refine TR.reg ?_
    refine TL.seg0 2 [] [] [2, 4, 13, 14] [z1, z5, z6, (14, .bool (decide ((shK n).tmod 7 = 1)))] (ap [z2] []) [] [] (fun _ => by kernel_rfl) mn an ?_
    refine TL.fin (by kernel_rfl) ?_
    refine EX.next ?_
    rcases Decidable.em ((shK n).tmod 7 = 1) with h3 | h3
    · refine TR.yes (b := decide ((shK n).tmod 7 = 1)) (by kernel_rfl) (by kernel_rfl) (decide_eq_true h3) ?_
      refine TR.skip ?_
      refine EX.next ?_
      refine TR.yes (b := decide ((shK n).tmod 7 = 1)) (by kernel_rfl) (by kernel_rfl) (decide_eq_true h3) ?_
      refine TR.seq ?_
      refine TR.reg ?_
      let z8 : Nat × Blk := ((n1 + 0), .lit [vI z4, .slice none 0 0] 35 (0, 0))
      refine TL.seg0 3 [] [.own 0, .own 0] [2] [z1] (ap [z8] []) [(n1 + 0), (n1 + 0)] [] (fun _ => by kernel_rfl) mn an ?_
      refine TL.fin (by kernel_rfl) ?_
      refine EX.next ?_
      refine TR.ret (A := [z8]) (Ts := []) (by exact fun _ _ h => h) rfl rfl [] [.own 0, .own 0] (.agg #[vI z4, .slice none 0 0]) [(n1 + 0), (n1 + 0)] [] (fun _ => by kernel_rfl) mn an [] [0] [] [] [] (by kernel_rfl) (by kernel_rfl) (by kernel_rfl) ?_
      have e : shapeS n = (shR n, []) := by simp only [shapeS, if_neg h2, if_pos h3]
      rw [e]
      exact ⟨(none, 0, []), rfl, rfl, ShH.circle _ _ _⟩
    · refine TR.no (b := decide ((shK n).tmod 7 = 1)) (by kernel_rfl) (by kernel_rfl) (decide_eq_false h3) ?_
      refine TR.reg ?_
      refine TL.seg0 2 [] [] [2, 4, 13, 14] [z1, z5, z6, (14, .bool (decide ((shK n).tmod 7 = 2)))] (ap [z2] []) [] [] (fun _ => by kernel_rfl) mn an ?_
      refine TL.fin (by kernel_rfl) ?_
      refine EX.next ?_
      rcases Decidable.em ((shK n).tmod 7 = 2) with h4 | h4
      · refine TR.yes (b := decide ((shK n).tmod 7 = 2)) (by kernel_rfl) (by kernel_rfl) (decide_eq_true h4) ?_
        refine TR.seq ?_
        refine TR.reg ?_
        let z9 : Nat × Blk := ((n1 + 0), .lit [vI z4, .slice none 0 0] 35 (0, 0))
        refine TL.seg0 3 [] [.own 0, .own 0] [2] [z1] (ap [z9] []) [(n1 + 0), (n1 + 0)] [] (fun _ => by kernel_rfl) mn an ?_
        refine TL.fin (by kernel_rfl) ?_
        refine EX.next ?_
        refine TR.ret (A := [z9]) (Ts := []) (by exact fun _ _ h => h) rfl rfl [] [.own 0, .own 0] (.agg #[vI z4, .slice none 0 0]) [(n1 + 0), (n1 + 0)] [] (fun _ => by kernel_rfl) mn an [] [0] [] [] [] (by kernel_rfl) (by kernel_rfl) (by kernel_rfl) ?_
        have e : shapeS n = (shR n, []) := by simp only [shapeS, if_neg h2, if_neg h3, if_pos h4]
        rw [e]
        exact ⟨(none, 0, []), rfl, rfl, ShH.circle _ _ _⟩
      · refine TR.no (b := decide ((shK n).tmod 7 = 2)) (by kernel_rfl) (by kernel_rfl) (decide_eq_false h4) ?_
        refine TR.seq ?_
        refine TR.seq ?_
        refine TR.reg ?_
        refine TL.seg0 2 [] [] [2, 4, 13, 20] [z1, z5, z6, (20, .bool (decide ((shK n).tmod 7 = 3)))] (ap [z2] []) [] [] (fun _ => by kernel_rfl) mn an ?_
        refine TL.fin (by kernel_rfl) ?_
        refine EX.next ?_
        rcases Decidable.em ((shK n).tmod 7 = 3) with h5 | h5
        · refine TR.yes (b := decide ((shK n).tmod 7 = 3)) (by kernel_rfl) (by kernel_rfl) (decide_eq_true h5) ?_
          refine TR.skip ?_
          refine EX.next ?_
          refine TR.yes (b := decide ((shK n).tmod 7 = 3)) (by kernel_rfl) (by kernel_rfl) (decide_eq_true h5) ?_
          refine TR.seq ?_
          refine TR.reg ?_
          let z10 := IntKind.i64.wrap (0 - z4)
          refine TL.seg 19 [] [.own 1, .own 1] [2] (fun n6 => [z1]) (fun n6 => (ap [((n6 + 0), .lit [vI z10, vI z10, vI z4, vI z10, vI z4, vI z4, vI z10, vI z4] 30 (0, 0)), ((n1 + 0), .lit [vI 0, vS (n6 + 0) 0 4 4] 35 (0, 0))] [])) (fun n6 => [(n1 + 0), (n1 + 0)]) (fun n6 => []) (fun _ => by kernel_rfl) mn (fun n6 => an) ?_
          intro n6
          refine TL.fin (by kernel_rfl) ?_
          refine EX.next ?_
          let z11 : Nat × Blk := ((n6 + 0), .rows 2 4 (vrow (shSq (shR n))) 30 (0, 0))
          let z12 : Nat × Blk := ((n1 + 0), .lit [vI 0, vS (n6 + 0) 0 4 4] 35 (0, 0))
          refine TR.den [z11, z12] (by kernel_rfl) ?_
          refine TR.ret (A := [z11, z12]) (Ts := []) (by exact fun _ _ h => h) rfl rfl [] [.own 1, .own 1] (.agg #[vI 0, vS (n6 + 0) 0 4 4]) [(n1 + 0), (n1 + 0)] [] (fun _ => by kernel_rfl) mn an [0] [1] [] [] [z11] (by kernel_rfl) (by kernel_rfl) (by kernel_rfl) ?_
          have e : shapeS n = (0, shSq (shR n)) := by simp only [shapeS, if_neg h2, if_neg h3, if_neg h4, if_pos h5]
          rw [e]
          exact ⟨(some ⟨(n6 + 0), 0, none⟩, 4, _), rfl, rfl, ShH.poly 0 (shSq (shR n)) (n6 + 0) 4 (Nat.le_of_ble_eq_true rfl) (Nat.le_of_ble_eq_true rfl) (by decide)⟩
        · refine TR.no (b := decide ((shK n).tmod 7 = 3)) (by kernel_rfl) (by kernel_rfl) (decide_eq_false h5) ?_
          refine TR.reg ?_
          refine TL.seg0 2 [] [] [2, 4, 13, 20] [z1, z5, z6, (20, .bool (decide ((shK n).tmod 7 = 4)))] (ap [z2] []) [] [] (fun _ => by kernel_rfl) mn an ?_
          refine TL.fin (by kernel_rfl) ?_
          refine EX.next ?_
          rcases Decidable.em ((shK n).tmod 7 = 4) with h7 | h7
          · refine TR.yes (b := decide ((shK n).tmod 7 = 4)) (by kernel_rfl) (by kernel_rfl) (decide_eq_true h7) ?_
            refine TR.seq ?_
            refine TR.reg ?_
            let z13 := IntKind.i64.wrap (0 - z4)
            refine TL.seg 19 [] [.own 1, .own 1] [2] (fun n8 => [z1]) (fun n8 => (ap [((n8 + 0), .lit [vI z13, vI z13, vI z4, vI z13, vI z4, vI z4, vI z13, vI z4] 30 (0, 0)), ((n1 + 0), .lit [vI 0, vS (n8 + 0) 0 4 4] 35 (0, 0))] [])) (fun n8 => [(n1 + 0), (n1 + 0)]) (fun n8 => []) (fun _ => by kernel_rfl) mn (fun n8 => an) ?_
            intro n8
            refine TL.fin (by kernel_rfl) ?_
            refine EX.next ?_
            let z14 : Nat × Blk := ((n8 + 0), .rows 2 4 (vrow (shSq (shR n))) 30 (0, 0))
            let z15 : Nat × Blk := ((n1 + 0), .lit [vI 0, vS (n8 + 0) 0 4 4] 35 (0, 0))
            refine TR.den [z14, z15] (by kernel_rfl) ?_
            refine TR.ret (A := [z14, z15]) (Ts := []) (by exact fun _ _ h => h) rfl rfl [] [.own 1, .own 1] (.agg #[vI 0, vS (n8 + 0) 0 4 4]) [(n1 + 0), (n1 + 0)] [] (fun _ => by kernel_rfl) mn an [0] [1] [] [] [z14] (by kernel_rfl) (by kernel_rfl) (by kernel_rfl) ?_
            have e : shapeS n = (0, shSq (shR n)) := by simp only [shapeS, if_neg h2, if_neg h3, if_neg h4, if_neg h5, if_pos h7]
            rw [e]
            exact ⟨(some ⟨(n8 + 0), 0, none⟩, 4, _), rfl, rfl, ShH.poly 0 (shSq (shR n)) (n8 + 0) 4 (Nat.le_of_ble_eq_true rfl) (Nat.le_of_ble_eq_true rfl) (by decide)⟩
          · refine TR.no (b := decide ((shK n).tmod 7 = 4)) (by kernel_rfl) (by kernel_rfl) (decide_eq_false h7) ?_
            refine TR.seq ?_
            refine TR.reg ?_
            refine TL.seg0 2 [] [] [2, 4, 41] [z1, z5, (41, .bool (decide ((shK n).tmod 7 = 5)))] (ap [z2] []) [] [] (fun _ => by kernel_rfl) mn an ?_
            refine TL.fin (by kernel_rfl) ?_
            refine EX.next ?_
            rcases Decidable.em ((shK n).tmod 7 = 5) with h9 | h9
            · refine TR.yes (b := decide ((shK n).tmod 7 = 5)) (by kernel_rfl) (by kernel_rfl) (decide_eq_true h9) ?_
              refine TR.seq ?_
              refine TR.reg ?_
              let z16 := IntKind.i64.wrap (0 - z4)
              refine TL.seg 14 [] [.own 1, .own 1] [2] (fun n10 => [z1]) (fun n10 => (ap [((n10 + 0), .lit [vI z16, vI z16, vI z4, vI z16, vI 0, vI z4] 30 (0, 0)), ((n1 + 0), .lit [vI 0, vS (n10 + 0) 0 3 3] 35 (0, 0))] [])) (fun n10 => [(n1 + 0), (n1 + 0)]) (fun n10 => []) (fun _ => by kernel_rfl) mn (fun n10 => an) ?_
              intro n10
              refine TL.fin (by kernel_rfl) ?_
              refine EX.next ?_
              let z17 : Nat × Blk := ((n10 + 0), .rows 2 3 (vrow (shTri (shR n))) 30 (0, 0))
              let z18 : Nat × Blk := ((n1 + 0), .lit [vI 0, vS (n10 + 0) 0 3 3] 35 (0, 0))
              refine TR.den [z17, z18] (by kernel_rfl) ?_
              refine TR.ret (A := [z17, z18]) (Ts := []) (by exact fun _ _ h => h) rfl rfl [] [.own 1, .own 1] (.agg #[vI 0, vS (n10 + 0) 0 3 3]) [(n1 + 0), (n1 + 0)] [] (fun _ => by kernel_rfl) mn an [0] [1] [] [] [z17] (by kernel_rfl) (by kernel_rfl) (by kernel_rfl) ?_
              have e : shapeS n = (0, shTri (shR n)) := by simp only [shapeS, if_neg h2, if_neg h3, if_neg h4, if_neg h5, if_neg h7, if_pos h9]
              rw [e]
              exact ⟨(some ⟨(n10 + 0), 0, none⟩, 3, _), rfl, rfl, ShH.poly 0 (shTri (shR n)) (n10 + 0) 3 (Nat.le_of_ble_eq_true rfl) (Nat.le_of_ble_eq_true rfl) (by decide)⟩
            · refine TR.no (b := decide ((shK n).tmod 7 = 5)) (by kernel_rfl) (by kernel_rfl) (decide_eq_false h9) ?_
              refine TR.skip ?_
              refine EX.inn ?_
              refine EX.next ?_
              refine TR.seq ?_
              refine TR.reg ?_
              let z19 := IntKind.i64.wrap ((-2) * z4)
              let z20 := IntKind.i64.wrap (2 * z4)
              refine TL.seg 15 [] [.own 1, .own 1] [2] (fun n11 => [z1]) (fun n11 => (ap [((n11 + 0), .lit [vI z19, vI (-300), vI z20, vI (-300), vI z20, vI 300, vI z19, vI 300] 30 (0, 0)), ((n1 + 0), .lit [vI 0, vS (n11 + 0) 0 4 4] 35 (0, 0))] [])) (fun n11 => [(n1 + 0), (n1 + 0)]) (fun n11 => []) (fun _ => by kernel_rfl) mn (fun n11 => an) ?_
              intro n11
              refine TL.fin (by kernel_rfl) ?_
              refine EX.next ?_
              let z21 : Nat × Blk := ((n11 + 0), .rows 2 4 (vrow (shBar (shR n))) 30 (0, 0))
              let z22 : Nat × Blk := ((n1 + 0), .lit [vI 0, vS (n11 + 0) 0 4 4] 35 (0, 0))
              refine TR.den [z21, z22] (by kernel_rfl) ?_
              refine TR.ret (A := [z21, z22]) (Ts := []) (by exact fun _ _ h => h) rfl rfl [] [.own 1, .own 1] (.agg #[vI 0, vS (n11 + 0) 0 4 4]) [(n1 + 0), (n1 + 0)] [] (fun _ => by kernel_rfl) mn an [0] [1] [] [] [z21] (by kernel_rfl) (by kernel_rfl) (by kernel_rfl) ?_
              have e : shapeS n = (0, shBar (shR n)) := by simp only [shapeS, if_neg h2, if_neg h3, if_neg h4, if_neg h5, if_neg h7, if_neg h9]
              rw [e]
              exact ⟨(some ⟨(n11 + 0), 0, none⟩, 4, _), rfl, rfl, ShH.poly 0 (shBar (shR n)) (n11 + 0) 4 (Nat.le_of_ble_eq_true rfl) (Nat.le_of_ble_eq_true rfl) (by decide)⟩
end Go.Proofs.YtpkincoclhpcgaaGreatDoor
