/- Contracts, printed by a program. -/
import Derived.Test.YtlefngomddjahaaGreatDoorU30
import Derived.Test.YtlefngomddjahaaGreatDoorU29
import Derived.Test.YtlefngomddjahaaGreatDoorU26
namespace Go.Proofs.YtlefngomddjahaaGreatDoor
set_option linter.unusedSimpArgs false
set_option linter.unusedVariables false
open Go.RowKit
def btwP (cs : List Int) : Prop := (cs.getD 1 0 = 0 ∧ cs.getD 2 0 = 0 ∧ cs.getD 3 0 = 0 ∧ cs.getD 4 0 = 0 ∧ cs.getD 5 0 = 0 ∧ cs.getD 6 0 = 0 ∧ cs.getD 7 0 = 0 ∧ cs.getD 8 0 = 0 ∧ cs.getD 9 0 = 0 ∧ cs.getD 10 0 = 0) ∧ cs.getD 0 0 ≥ 0 ∧ cs.getD 0 0 ≤ 6000
instance (cs : List Int) : Decidable (btwP cs) := inferInstanceAs (Decidable (_ ∧ _))
def resM (cs : List Int) (M : MemS) : Nat → MemS
  | 0 => M
  | i + 1 => if (resM cs M i).get (i : Int) = cs.getD i 0 then resM cs M i else (resM cs M i).set (i : Int) (cs.getD i 0)
theorem set_len (M : MemS) (i v : Int) : (M.set i v).cs.length = M.cs.length := by
  unfold MemS.set; split <;> simp
theorem resM_len (cs : List Int) (M : MemS) : ∀ i, (resM cs M i).cs.length = M.cs.length
  | 0 => rfl
  | i + 1 => by
    rw [resM]; split
    · exact resM_len cs M i
    · rw [set_len]; exact resM_len cs M i
theorem resM_cs (cs : List Int) (M : MemS) : ∀ i, i ≤ M.cs.length → ∀ k, (resM cs M i).cs.getD k 0 = if k < i then cs.getD k 0 else M.cs.getD k 0
  | 0, _, k => by rw [if_neg (Nat.not_lt_zero k)]; rfl
  | i + 1, h, k => by
    have ih := resM_cs cs M i (by omega)
    have hl := resM_len cs M i
    rw [resM]
    split
    · next he =>
      unfold MemS.get at he
      rw [if_pos (by omega), Int.toNat_natCast] at he
      by_cases h1 : k = i
      · subst h1; rw [if_pos (by omega)]; exact he
      · rw [ih k]
        by_cases h2 : k < i
        · rw [if_pos h2, if_pos (by omega)]
        · rw [if_neg h2, if_neg (by omega)]
    · unfold MemS.set
      rw [if_pos (by omega), Int.toNat_natCast]
      by_cases h1 : k = i
      · subst h1
        rw [if_pos (by omega)]
        exact getD_set_same (by omega)
      · show ((resM cs M i).cs.set i _).getD k 0 = _
        rw [getD_set_not (fun e => h1 e.symm), ih k]
        by_cases h2 : k < i
        · rw [if_pos h2, if_pos (by omega)]
        · rw [if_neg h2, if_neg (by omega)]
theorem resM_all {cs : List Int} {M : MemS} {n : Nat} (h : n = M.cs.length) (hc : n ≤ cs.length) : (resM cs M n).cs = cs.take n := by
  apply List.ext_getElem?
  intro k
  have h1 := resM_cs cs M n (by omega) k
  have hl := resM_len cs M n
  by_cases hk : k < n
  · rw [if_pos hk, List.getD_eq_getElem?_getD, List.getD_eq_getElem?_getD, List.getElem?_eq_getElem (by omega), List.getElem?_eq_getElem (by omega)] at h1
    rw [List.getElem?_take, if_pos hk, List.getElem?_eq_getElem (by omega), List.getElem?_eq_getElem (by omega)]
    exact congrArg some h1
  · rw [List.getElem?_eq_none (by omega), List.getElem?_eq_none (by rw [List.length_take]; omega)]

set_option maxHeartbeats 1000000 in
set_option maxRecDepth 100000 in
theorem btw_any (cs : List Int) (q n N cap : Nat) (F : HL) (hq : (q, .rows 1 N (irow cs) 3 (0, 0)) ∈ F) (hN : n ≤ N) (h48 : 48 ≤ n) : Sp Tryz.prog 49 #[vS q 0 n cap] [] F (fun u H' => u = .bool (decide (btwP cs)) ∧ H' = []) := by
  refine Sp.run Tryz.func49 rfl (mc hq mn) (A := []) (Ts := []) rfl fun w0 => ?_
  refine RN.go 20 (ow 0 20) fun n1 => RN.rounds 10 <| RN.goP 26 [.gen, .gen, .ix 1, .rorow 0 1 0] [(0 + 1 * 1) = 1 * 1 + 0 ∧ 1 < N, 1 = ((1 : Nat) : Int) ∧ 1 < n] fun _ => RN.en (cs.getD 1 0 = 0) 15 (fun h2 => ?_) fun h2 => ?_
  · refine RN.goP 35 [.gen, .gen, .gen, .ix 2, .rorow 0 2 0] [(0 + 2 * 1) = 2 * 1 + 0 ∧ 2 < N, 2 = ((2 : Nat) : Int) ∧ 2 < n] fun _ => RN.en (cs.getD 2 0 = 0) 15 (fun h3 => ?_) fun h3 => ?_
    · refine RN.goP 35 [.gen, .gen, .gen, .ix 3, .rorow 0 3 0] [(0 + 3 * 1) = 3 * 1 + 0 ∧ 3 < N, 3 = ((3 : Nat) : Int) ∧ 3 < n] fun _ => RN.en (cs.getD 3 0 = 0) 15 (fun h4 => ?_) fun h4 => ?_
      · refine RN.goP 35 [.gen, .gen, .gen, .ix 4, .rorow 0 4 0] [(0 + 4 * 1) = 4 * 1 + 0 ∧ 4 < N, 4 = ((4 : Nat) : Int) ∧ 4 < n] fun _ => RN.en (cs.getD 4 0 = 0) 15 (fun h5 => ?_) fun h5 => ?_
        · refine RN.goP 35 [.gen, .gen, .gen, .ix 5, .rorow 0 5 0] [(0 + 5 * 1) = 5 * 1 + 0 ∧ 5 < N, 5 = ((5 : Nat) : Int) ∧ 5 < n] fun _ => RN.en (cs.getD 5 0 = 0) 15 (fun h6 => ?_) fun h6 => ?_
          · refine RN.goP 35 [.gen, .gen, .gen, .ix 6, .rorow 0 6 0] [(0 + 6 * 1) = 6 * 1 + 0 ∧ 6 < N, 6 = ((6 : Nat) : Int) ∧ 6 < n] fun _ => RN.en (cs.getD 6 0 = 0) 15 (fun h7 => ?_) fun h7 => ?_
            · refine RN.goP 35 [.gen, .gen, .gen, .ix 7, .rorow 0 7 0] [(0 + 7 * 1) = 7 * 1 + 0 ∧ 7 < N, 7 = ((7 : Nat) : Int) ∧ 7 < n] fun _ => RN.en (cs.getD 7 0 = 0) 15 (fun h8 => ?_) fun h8 => ?_
              · refine RN.goP 35 [.gen, .gen, .gen, .ix 8, .rorow 0 8 0] [(0 + 8 * 1) = 8 * 1 + 0 ∧ 8 < N, 8 = ((8 : Nat) : Int) ∧ 8 < n] fun _ => RN.en (cs.getD 8 0 = 0) 15 (fun h9 => ?_) fun h9 => ?_
                · refine RN.goP 35 [.gen, .gen, .gen, .ix 9, .rorow 0 9 0] [(0 + 9 * 1) = 9 * 1 + 0 ∧ 9 < N, 9 = ((9 : Nat) : Int) ∧ 9 < n] fun _ => RN.en (cs.getD 9 0 = 0) 15 (fun h10 => ?_) fun h10 => ?_
                  · refine RN.goP 35 [.gen, .gen, .gen, .ix 10, .rorow 0 10 0] [(0 + 10 * 1) = 10 * 1 + 0 ∧ 10 < N, 10 = ((10 : Nat) : Int) ∧ 10 < n] fun _ => RN.en (cs.getD 10 0 = 0) 15 (fun h11 => ?_) fun h11 => ?_
                    · refine RN.goP 28 [.ix 0, .rorow 0 0 0] [(0 + 0 * 1) = 0 * 1 + 0 ∧ 0 < N, 0 = ((0 : Nat) : Int) ∧ 0 < n] fun _ => RN.em (cs.getD 0 0 ≥ 0) 21 (fun h12 => ?_) fun h12 => ?_
                      · refine RN.goP 8 [.ix 0, .rorow 0 0 0] [(0 + 0 * 1) = 0 * 1 + 0 ∧ 0 < N, 0 = ((0 : Nat) : Int) ∧ 0 < n] fun _ => RN.ret [] [] [] (v := .bool (decide (cs.getD 0 0 ≤ 6000))) (H' := []) ?_
                        exact ⟨congrArg Value.bool (decide_eq_decide.2 ⟨fun h_ => by unfold btwP; omega, fun h_ => by unfold btwP at h_; omega⟩), rfl⟩
                      · refine RN.go 8 [] fun _ => RN.ret [] [] [] (v := .bool false) (H' := []) ?_
                        exact ⟨congrArg Value.bool (decide_eq_false (show ¬ btwP cs from fun h_ => by unfold btwP at h_; omega)).symm, rfl⟩
                    · refine RN.go 6 [] fun _ => RN.ret [] [] [] (v := .bool false) (H' := []) ?_
                      exact ⟨congrArg Value.bool (decide_eq_false (show ¬ btwP cs from fun h_ => by unfold btwP at h_; omega)).symm, rfl⟩
                  · refine RN.go 6 [] fun _ => RN.ret [] [] [] (v := .bool false) (H' := []) ?_
                    exact ⟨congrArg Value.bool (decide_eq_false (show ¬ btwP cs from fun h_ => by unfold btwP at h_; omega)).symm, rfl⟩
                · refine RN.go 6 [] fun _ => RN.ret [] [] [] (v := .bool false) (H' := []) ?_
                  exact ⟨congrArg Value.bool (decide_eq_false (show ¬ btwP cs from fun h_ => by unfold btwP at h_; omega)).symm, rfl⟩
              · refine RN.go 6 [] fun _ => RN.ret [] [] [] (v := .bool false) (H' := []) ?_
                exact ⟨congrArg Value.bool (decide_eq_false (show ¬ btwP cs from fun h_ => by unfold btwP at h_; omega)).symm, rfl⟩
            · refine RN.go 6 [] fun _ => RN.ret [] [] [] (v := .bool false) (H' := []) ?_
              exact ⟨congrArg Value.bool (decide_eq_false (show ¬ btwP cs from fun h_ => by unfold btwP at h_; omega)).symm, rfl⟩
          · refine RN.go 6 [] fun _ => RN.ret [] [] [] (v := .bool false) (H' := []) ?_
            exact ⟨congrArg Value.bool (decide_eq_false (show ¬ btwP cs from fun h_ => by unfold btwP at h_; omega)).symm, rfl⟩
        · refine RN.go 6 [] fun _ => RN.ret [] [] [] (v := .bool false) (H' := []) ?_
          exact ⟨congrArg Value.bool (decide_eq_false (show ¬ btwP cs from fun h_ => by unfold btwP at h_; omega)).symm, rfl⟩
      · refine RN.go 6 [] fun _ => RN.ret [] [] [] (v := .bool false) (H' := []) ?_
        exact ⟨congrArg Value.bool (decide_eq_false (show ¬ btwP cs from fun h_ => by unfold btwP at h_; omega)).symm, rfl⟩
    · refine RN.go 6 [] fun _ => RN.ret [] [] [] (v := .bool false) (H' := []) ?_
      exact ⟨congrArg Value.bool (decide_eq_false (show ¬ btwP cs from fun h_ => by unfold btwP at h_; omega)).symm, rfl⟩
  · refine RN.go 6 [] fun _ => RN.ret [] [] [] (v := .bool false) (H' := []) ?_
    exact ⟨congrArg Value.bool (decide_eq_false (show ¬ btwP cs from fun h_ => by unfold btwP at h_; omega)).symm, rfl⟩

set_option maxHeartbeats 1000000 in
set_option maxRecDepth 100000 in
theorem restorable_any (S : Setup) (cs : List Int) (q n N cap : Nat) (F : HL) (hq : (q, .rows 1 N (irow cs) 3 (0, 0)) ∈ F) (hN : n ≤ N) (hS : SetN S) : Sp Tryz.prog 23 #[(Setup.v S), vS q 0 n cap] [] F (fun u H' => u = .bool (decide ((n : Int) = sizeOf S ∧ btwP cs)) ∧ H' = []) := by
  have hz := sizeOf_bd hS
  refine Sp.run Tryz.func23 rfl (mc hq mn) (A := []) (Ts := []) rfl fun w0 => ?_
  refine RN.go 12 (ow 0 16) fun n1 => RN.cp (rsize_any S _ hS) <| RN.go 3 [] fun _ => RN.en ((n : Int) = sizeOf S) 10 (fun h2 => ?_) fun h2 => ?_
  · refine RN.go 10 [] fun _ => RN.rounds 10 <| RN.goP 21 [.ix 1, .rorow 0 1 0] [(0 + 1 * 1) = 1 * 1 + 0 ∧ 1 < N, 1 = ((1 : Nat) : Int) ∧ 1 < n] fun _ => RN.en (cs.getD 1 0 = 0) 19 (fun h3 => ?_) fun h3 => ?_
    · refine RN.goP 31 [.ix 2, .rorow 0 2 0] [(0 + 2 * 1) = 2 * 1 + 0 ∧ 2 < N, 2 = ((2 : Nat) : Int) ∧ 2 < n] fun _ => RN.en (cs.getD 2 0 = 0) 19 (fun h4 => ?_) fun h4 => ?_
      · refine RN.goP 31 [.ix 3, .rorow 0 3 0] [(0 + 3 * 1) = 3 * 1 + 0 ∧ 3 < N, 3 = ((3 : Nat) : Int) ∧ 3 < n] fun _ => RN.en (cs.getD 3 0 = 0) 19 (fun h5 => ?_) fun h5 => ?_
        · refine RN.goP 31 [.ix 4, .rorow 0 4 0] [(0 + 4 * 1) = 4 * 1 + 0 ∧ 4 < N, 4 = ((4 : Nat) : Int) ∧ 4 < n] fun _ => RN.en (cs.getD 4 0 = 0) 19 (fun h6 => ?_) fun h6 => ?_
          · refine RN.goP 31 [.ix 5, .rorow 0 5 0] [(0 + 5 * 1) = 5 * 1 + 0 ∧ 5 < N, 5 = ((5 : Nat) : Int) ∧ 5 < n] fun _ => RN.en (cs.getD 5 0 = 0) 19 (fun h7 => ?_) fun h7 => ?_
            · refine RN.goP 31 [.ix 6, .rorow 0 6 0] [(0 + 6 * 1) = 6 * 1 + 0 ∧ 6 < N, 6 = ((6 : Nat) : Int) ∧ 6 < n] fun _ => RN.en (cs.getD 6 0 = 0) 19 (fun h8 => ?_) fun h8 => ?_
              · refine RN.goP 31 [.ix 7, .rorow 0 7 0] [(0 + 7 * 1) = 7 * 1 + 0 ∧ 7 < N, 7 = ((7 : Nat) : Int) ∧ 7 < n] fun _ => RN.en (cs.getD 7 0 = 0) 19 (fun h9 => ?_) fun h9 => ?_
                · refine RN.goP 31 [.ix 8, .rorow 0 8 0] [(0 + 8 * 1) = 8 * 1 + 0 ∧ 8 < N, 8 = ((8 : Nat) : Int) ∧ 8 < n] fun _ => RN.en (cs.getD 8 0 = 0) 19 (fun h10 => ?_) fun h10 => ?_
                  · refine RN.goP 31 [.ix 9, .rorow 0 9 0] [(0 + 9 * 1) = 9 * 1 + 0 ∧ 9 < N, 9 = ((9 : Nat) : Int) ∧ 9 < n] fun _ => RN.en (cs.getD 9 0 = 0) 19 (fun h11 => ?_) fun h11 => ?_
                    · refine RN.goP 31 [.ix 10, .rorow 0 10 0] [(0 + 10 * 1) = 10 * 1 + 0 ∧ 10 < N, 10 = ((10 : Nat) : Int) ∧ 10 < n] fun _ => RN.en (cs.getD 10 0 = 0) 19 (fun h12 => ?_) fun h12 => ?_
                      · refine RN.goP 30 [.ix 0, .rorow 0 0 0] [(0 + 0 * 1) = 0 * 1 + 0 ∧ 0 < N, 0 = ((0 : Nat) : Int) ∧ 0 < n] fun _ => RN.em (cs.getD 0 0 ≥ 0) 24 (fun h13 => ?_) fun h13 => ?_
                        · refine RN.goP 8 [.ix 0, .rorow 0 0 0] [(0 + 0 * 1) = 0 * 1 + 0 ∧ 0 < N, 0 = ((0 : Nat) : Int) ∧ 0 < n] fun _ => RN.ret [] [] [] (v := .bool (decide (cs.getD 0 0 ≤ 6000))) (H' := []) ?_
                          exact ⟨congrArg Value.bool (decide_eq_decide.2 ⟨fun h_ => by unfold btwP; omega, fun h_ => by unfold btwP at h_; omega⟩), rfl⟩
                        · refine RN.go 8 [] fun _ => RN.ret [] [] [] (v := .bool false) (H' := []) ?_
                          exact ⟨congrArg Value.bool (decide_eq_false (show ¬ ((n : Int) = sizeOf S ∧ btwP cs) from fun h_ => by unfold btwP at h_; omega)).symm, rfl⟩
                      · refine RN.go 6 [] fun _ => RN.ret [] [] [] (v := .bool false) (H' := []) ?_
                        exact ⟨congrArg Value.bool (decide_eq_false (show ¬ ((n : Int) = sizeOf S ∧ btwP cs) from fun h_ => by unfold btwP at h_; omega)).symm, rfl⟩
                    · refine RN.go 6 [] fun _ => RN.ret [] [] [] (v := .bool false) (H' := []) ?_
                      exact ⟨congrArg Value.bool (decide_eq_false (show ¬ ((n : Int) = sizeOf S ∧ btwP cs) from fun h_ => by unfold btwP at h_; omega)).symm, rfl⟩
                  · refine RN.go 6 [] fun _ => RN.ret [] [] [] (v := .bool false) (H' := []) ?_
                    exact ⟨congrArg Value.bool (decide_eq_false (show ¬ ((n : Int) = sizeOf S ∧ btwP cs) from fun h_ => by unfold btwP at h_; omega)).symm, rfl⟩
                · refine RN.go 6 [] fun _ => RN.ret [] [] [] (v := .bool false) (H' := []) ?_
                  exact ⟨congrArg Value.bool (decide_eq_false (show ¬ ((n : Int) = sizeOf S ∧ btwP cs) from fun h_ => by unfold btwP at h_; omega)).symm, rfl⟩
              · refine RN.go 6 [] fun _ => RN.ret [] [] [] (v := .bool false) (H' := []) ?_
                exact ⟨congrArg Value.bool (decide_eq_false (show ¬ ((n : Int) = sizeOf S ∧ btwP cs) from fun h_ => by unfold btwP at h_; omega)).symm, rfl⟩
            · refine RN.go 6 [] fun _ => RN.ret [] [] [] (v := .bool false) (H' := []) ?_
              exact ⟨congrArg Value.bool (decide_eq_false (show ¬ ((n : Int) = sizeOf S ∧ btwP cs) from fun h_ => by unfold btwP at h_; omega)).symm, rfl⟩
          · refine RN.go 6 [] fun _ => RN.ret [] [] [] (v := .bool false) (H' := []) ?_
            exact ⟨congrArg Value.bool (decide_eq_false (show ¬ ((n : Int) = sizeOf S ∧ btwP cs) from fun h_ => by unfold btwP at h_; omega)).symm, rfl⟩
        · refine RN.go 6 [] fun _ => RN.ret [] [] [] (v := .bool false) (H' := []) ?_
          exact ⟨congrArg Value.bool (decide_eq_false (show ¬ ((n : Int) = sizeOf S ∧ btwP cs) from fun h_ => by unfold btwP at h_; omega)).symm, rfl⟩
      · refine RN.go 6 [] fun _ => RN.ret [] [] [] (v := .bool false) (H' := []) ?_
        exact ⟨congrArg Value.bool (decide_eq_false (show ¬ ((n : Int) = sizeOf S ∧ btwP cs) from fun h_ => by unfold btwP at h_; omega)).symm, rfl⟩
    · refine RN.go 6 [] fun _ => RN.ret [] [] [] (v := .bool false) (H' := []) ?_
      exact ⟨congrArg Value.bool (decide_eq_false (show ¬ ((n : Int) = sizeOf S ∧ btwP cs) from fun h_ => by unfold btwP at h_; omega)).symm, rfl⟩
  · refine RN.go 6 [] fun _ => RN.ret [] [] [] (v := .bool false) (H' := []) ?_
    exact ⟨congrArg Value.bool (decide_eq_false (show ¬ ((n : Int) = sizeOf S ∧ btwP cs) from fun h_ => by unfold btwP at h_; omega)).symm, rfl⟩

set_option maxHeartbeats 1000000 in
set_option maxRecDepth 100000 in
theorem restore_run (S : Setup) (bp gb mb : Nat) (cs : List Int) (q n N cap : Nat) (M : MemS) (k : Nat) (T U F : HL) (hM : MemH mb M (k + n) T) (hq : (q, .rows 1 N (irow cs) 3 (0, 0)) ∈ F) (hN : n ≤ N) (h48 : 48 ≤ M.cs.length) : Sp Tryz.prog 22 #[vP gb 0, vS q 0 n cap] (ap [(gb, .lit (gameL S bp mb) 90 (0, 0))] [T, U]) F (fun u H' => ∃ x : HL, H' = ap [(gb, .lit (gameL S bp mb) 90 (0, 0))] [x, U] ∧ ((((n : Int) = (M.cs.length : Int) ∧ btwP cs) ∧ u = vI 0 ∧ MemH mb (resM cs M n) k x) ∨ (¬ ((n : Int) = (M.cs.length : Int) ∧ btwP cs) ∧ u = vI 1 ∧ x = T))) := by
  have hl_ := hM.len
  refine Sp.run Tryz.func22 rfl (mc hq mn) (A := [(gb, .lit (gameL S bp mb) 90 (0, 0))]) (Ts := [T, U]) rfl fun w0 => ?_
  refine RN.go 14 [.own 0] fun _ => RN.cp (len_any hM (sub_ap 0)) <| RN.go 2 [] fun _ => RN.en ((n : Int) = (M.cs.length : Int)) 15 (fun h1 => ?_) fun h1 => ?_
  · refine RN.go 1 [] fun _ => RN.cp (btw_any cs q n N cap _ (ro_ap hq) hN (by omega)) <| RN.go 4 [] fun _ => RN.en (btwP cs) 19 (fun h2 => ?_) fun h2 => ?_
    · refine RN.go 12 [] fun _ => RN.loop (σ := Nat × HL) (fun ⟨i, T_⟩ => ⟨[(0, vP gb 0), (20, vS q 0 n cap), (21, vI (n : Int)), (22, vI (i : Int))], [(gb, .lit (gameL S bp mb) 90 (0, 0))], [T_, U], i ≤ n ∧ MemH mb (resM cs M i) (k + (n - i)) T_, n - i⟩) (0, T) [0] [0, 1] (⟨Nat.zero_le _, hM⟩) ?_
      rintro ⟨i, T_⟩ ⟨hin, hT_⟩ mt4
      refine RN.go 6 [] fun _ => RN.em ((i : Int) < (n : Int)) 23 (fun h5 => ?_) fun h5 => ?_
      · refine RN.go 7 [] fun _ => ?_
        replace hT_ := hT_.weak (k' := k + (n - (i + 1)) + 1) (by omega)
        refine RN.goP 14 [.ix i, .rorow 0 i 0, .own 0] [(0 + i * 1) = i * 1 + 0 ∧ i < N, (i : Int) = ((i : Nat) : Int) ∧ i < n] fun _ => RN.cp (get_any (i : Int) hT_ (sub_ap 0)) <| RN.go 4 [] fun _ => RN.en ((resM cs M i).get (i : Int) = cs.getD i 0) 34 (fun h6 => ?_) fun h6 => ?_
        · refine RN.goP 8 [.nw] [I64 ((i : Int) + 1)] fun _ => ?_
          refine mt4 (i + 1, T_) [0] [0, 1] ?_
          try dsimp only
          exact ⟨⟨by omega, hT_.cast (by rw [resM, if_pos h6]) (by omega)⟩, by omega⟩
        · refine RN.go 8 [.own 0] fun _ => RN.ct [] [0] (set_any (i : Int) (cs.getD i 0) hT_) ?_
          rintro _ T7 hM8
          refine RN.goP 7 [.nw] [I64 ((i : Int) + 1)] fun _ => ?_
          refine mt4 (i + 1, T7) [0] [0, 1] ?_
          try dsimp only
          exact ⟨⟨by omega, hM8.cast (by rw [resM, if_neg h6]) (by omega)⟩, by omega⟩
      · refine RN.go 11 [] fun _ => RN.ret [] [0] [0, 1] (v := vI 0) (H' := (ap [(gb, .lit (gameL S bp mb) 90 (0, 0))] [T_, U])) ?_
        obtain rfl : i = n := by omega
        exact ⟨T_, rfl, .inl ⟨⟨by omega, by assumption⟩, rfl, hT_.weak (by omega)⟩⟩
    · refine RN.go 6 [] fun _ => RN.ret [] [0] [0, 1] (v := vI 1) (H' := (ap [(gb, .lit (gameL S bp mb) 90 (0, 0))] [T, U])) ?_
      exact ⟨T, rfl, .inr ⟨fun h_ => by first | exact absurd h_.2 (by assumption) | omega, rfl, rfl⟩⟩
  · refine RN.go 12 [] fun _ => RN.ret [] [0] [0, 1] (v := vI 1) (H' := (ap [(gb, .lit (gameL S bp mb) 90 (0, 0))] [T, U])) ?_
    exact ⟨T, rfl, .inr ⟨fun h_ => by first | exact absurd h_.2 (by assumption) | omega, rfl, rfl⟩⟩

theorem MemH.len2 {mb : Nat} {M : MemS} {k : Nat} {T : HL} (h : MemH mb M k T) : M.lg.length + k ≤ 100000000 := by
  cases h with
  | mk cb A cap Hl hs hc hl => exact hl
theorem restore_any (rs : List Bx) (ds : List Dr) (S : Setup) (bp gb : Nat) (cs : List Int) (q n N cap : Nat) (M : MemS) (k : Nat) (G F : HL) (hG : GameH rs ds bp gb S M (k + n) G) (hq : (q, .rows 1 N (irow cs) 3 (0, 0)) ∈ F) (hN : n ≤ N) (h48 : 48 ≤ M.cs.length) : Sp Tryz.prog 22 #[vP gb 0, vS q 0 n cap] (ap [] [G]) F
    (fun u H' => ∃ x : HL, H' = ap [] [x] ∧ ((((n : Int) = (M.cs.length : Int) ∧ btwP cs) ∧ u = vI 0 ∧ GameH rs ds bp gb S (resM cs M n) k x) ∨ (¬ ((n : Int) = (M.cs.length : Int) ∧ btwP cs) ∧ u = vI 1 ∧ GameH rs ds bp gb S M k x))) := by
  cases hG with
  | mk mb T U hM hU =>
    rw [ap_one]
    refine (restore_run S bp gb mb cs q n N cap M k T U F hM hq hN h48).mono fun u H' h => ?_
    obtain ⟨x, rfl, h⟩ := h
    refine ⟨_, (ap_one _).symm, ?_⟩
    rcases h with ⟨h1, h2, h3⟩ | ⟨h1, h2, rfl⟩
    · exact .inl ⟨h1, h2, .mk _ _ _ h3 hU⟩
    · exact .inr ⟨h1, h2, .mk _ _ _ (hM.weak (by omega)) hU⟩

def sameP (na nb : Nat) (xs ys : List Int) : Prop := na = nb ∧ ∀ k, k < na → xs.getD k 0 = ys.getD k 0
instance (na nb : Nat) (xs ys : List Int) : Decidable (sameP na nb xs ys) := inferInstanceAs (Decidable (_ ∧ _))

set_option maxHeartbeats 400000 in
set_option maxRecDepth 100000 in
theorem sameI_run (qa qb na nb Na Nb ca cb : Nat) (xs ys : List Int) (F : HL) (ha : (qa, .rows 1 Na (irow xs) 3 (0, 0)) ∈ F) (hb : (qb, .rows 1 Nb (irow ys) 3 (0, 0)) ∈ F) (hna : na ≤ Na) (hnb : nb ≤ Nb) (hn : na ≤ 1000000) : Sp Tryz.prog 19 #[vS qa 0 na ca, vS qb 0 nb cb] [] F (fun u H' => u = .bool (decide (sameP na nb xs ys)) ∧ H' = []) := by
  refine Sp.run Tryz.func19 rfl (mc ha (mc hb mn)) (A := []) (Ts := []) rfl fun w0 => ?_
  refine RN.go 15 [] fun _ => RN.en ((na : Int) = (nb : Int)) 10 (fun h1 => ?_) fun h1 => ?_
  · refine RN.go 10 [] fun _ => RN.loop (σ := Nat) (fun i => ⟨[(0, vS qa 0 na ca), (1, vS qb 0 nb cb), (5, vI (i : Int))], [], [], i ≤ na ∧ ∀ t, t < i → xs.getD t 0 = ys.getD t 0, na - i⟩) 0 [] [] (⟨Nat.zero_le _, fun t ht => absurd ht (Nat.not_lt_zero _)⟩) ?_
    rintro i ⟨hil, hs1⟩ mt3
    refine RN.go 9 [] fun _ => RN.em ((i : Int) < (na : Int)) 14 (fun h4 => ?_) fun h4 => ?_
    · refine RN.go 6 [] fun _ => RN.draw [] [] <| RD.goP [] [0, 1, 4, 5, 2, 6, 3, 7, 8] [.ix i, .ix i, .rorow 0 i 0, .rorow 1 i 0] [(0 + i * 1) = i * 1 + 0 ∧ i < Nb, (0 + i * 1) = i * 1 + 0 ∧ i < Na, (i : Int) = ((i : Nat) : Int) ∧ i < nb, (i : Int) = ((i : Nat) : Int) ∧ i < na] <| RD.fin <| RN.go 1 [] fun _ => RN.en (xs.getD i 0 = ys.getD i 0) 25 (fun h5 => ?_) fun h5 => ?_
      · refine RN.goP 9 [.nw] [I64 ((i : Int) + 1)] fun _ => ?_
        refine mt3 (i + 1) [] [] ?_
        try dsimp only
        refine ⟨⟨by omega, fun t ht => ?_⟩, by omega⟩
        rcases Nat.lt_or_ge t i with h_ | h_
        · exact hs1 t h_
        · obtain rfl : t = i := by omega
          exact h5
      · refine RN.go 6 [] fun _ => RN.ret [] [] [] (v := .bool false) (H' := []) ?_
        exact ⟨congrArg Value.bool (decide_eq_false (show ¬ sameP na nb xs ys from fun h_ => h5 (h_.2 i (by omega)))).symm, rfl⟩
    · refine RN.go 11 [] fun _ => RN.ret [] [] [] (v := .bool true) (H' := []) ?_
      exact ⟨congrArg Value.bool (decide_eq_true (show sameP na nb xs ys from ⟨by omega, fun t ht => hs1 t (by omega)⟩)).symm, rfl⟩
  · refine RN.go 6 [] fun _ => RN.ret [] [] [] (v := .bool false) (H' := []) ?_
    exact ⟨congrArg Value.bool (decide_eq_false (show ¬ sameP na nb xs ys from fun h_ => by have := h_.1; omega)).symm, rfl⟩

theorem sameI_b (b : Bool) (qa qb na nb Na Nb ca cb : Nat) (xs ys : List Int) (F : HL) (ha : (qa, .rows 1 Na (irow xs) 3 (0, 0)) ∈ F) (hb : (qb, .rows 1 Nb (irow ys) 3 (0, 0)) ∈ F) (hna : na ≤ Na) (hnb : nb ≤ Nb) (hn : na ≤ 1000000) (he : decide (sameP na nb xs ys) = b) : Sp Tryz.prog 19 #[vS qa 0 na ca, vS qb 0 nb cb] [] F (fun u H' => u = .bool b ∧ H' = []) := he ▸ sameI_run qa qb na nb Na Nb ca cb xs ys F ha hb hna hnb hn
theorem GameH.weak {rs : List Bx} {ds : List Dr} {bp gb : Nat} {S : Setup} {M : MemS} {k k' : Nat} {T : HL} (h : GameH rs ds bp gb S M k T) (hk : k' ≤ k) : GameH rs ds bp gb S M k' T := by
  cases h with
  | mk mb T U hM hU => exact .mk mb T U (hM.weak hk) hU
theorem cells_ap (mb : Nat) (M : MemS) (k : Nat) (T F : HL) (hM : MemH mb M k T) (hT : ∀ x ∈ T, x ∈ F) : Sp Tryz.prog 15 #[vP mb 0] (ap [] []) F (fun u H' => ∃ q, H' = ap [(q, .rows 1 M.cs.length (irow M.cs) 3 (0, 0))] [] ∧ u = vS q 0 M.cs.length M.cs.length) := cells_any mb M k T F hM hT
theorem rinit_ap (S : Setup) (F : HL) (hS : SetIn F S) : Sp Tryz.prog 21 #[Setup.v S] (ap [] []) F (fun u H' => ∃ q, H' = ap [(q, .rows 1 (sizeOf S).toNat (irow (iniL S S.nb)) 3 (0, 0))] [] ∧ u = vS q 0 (sizeOf S).toNat (sizeOf S).toNat) := rinit_any S F hS
theorem setup_ap (A : Option Addr) (n cap : Nat) (xs : List Int) (F : HL) (hl : ArgL F A n xs) (hn : n ≤ 9223372036854775807) : Sp Tryz.prog 7 #[.slice A n cap] (ap [] []) F (fun u H' => ∃ x : Setup × HL, H' = ap [(x.1.bb, .rows 9 x.1.bR (brow x.1.bods) 82 (0, 0))] [x.2] ∧ (u = Setup.v x.1 ∧ SetG xs x.1 x.2)) := setup_any A n cap xs F hl hn

theorem restorable_b (b : Bool) (S : Setup) (cs : List Int) (q n N cap : Nat) (F : HL) (hq : (q, .rows 1 N (irow cs) 3 (0, 0)) ∈ F) (hN : n ≤ N) (hS : SetN S) (he : decide ((n : Int) = sizeOf S ∧ btwP cs) = b) : Sp Tryz.prog 23 #[Setup.v S, vS q 0 n cap] [] F (fun u H' => u = .bool b ∧ H' = []) := he ▸ restorable_any S cs q n N cap F hq hN hS
end Go.Proofs.YtlefngomddjahaaGreatDoor
/- Generated setups are valid. -/
namespace Go.Proofs.YtlefngomddjahaaGreatDoor
set_option linter.unusedSimpArgs false
set_option linter.unusedVariables false
open Go.RowKit

theorem shK_bd {n : Int} (h : i64r n) : 0 ≤ shK n ∧ shK n < 1000 := around_bd h 1000 (by decide)
theorem around_small {n m : Int} (h0 : 0 ≤ n) (h1 : n < m) : around n m = n := by
  unfold around
  rw [if_neg (by omega)]
  exact Int.tmod_eq_of_lt h0 h1
theorem shapeS_shK {n : Int} (h : i64r n) : shapeS (shK n) = shapeS n := by
  have hb := shK_bd h
  have e : shK (shK n) = shK n := around_small hb.1 hb.2
  unfold shapeS shR
  rw [e]
set_option maxRecDepth 100000 in
theorem shape_all : ∀ k : Fin 1000, shOk ⟨(shapeS ((k.1 : Nat) : Int)).1, (shapeS ((k.1 : Nat) : Int)).2, none, 0⟩ := by decide +kernel
theorem shape_ok {n : Int} (h : i64r n) (A : Option Addr) (c : Nat) : shOk ⟨(shapeS n).1, (shapeS n).2, A, c⟩ := by
  have hb := shK_bd h
  have := shape_all ⟨(shK n).toNat, by omega⟩
  simp only at this
  rw [Int.toNat_of_nonneg hb.1, shapeS_shK h] at this
  exact this
theorem inv_bd (i : Nat) : 0 ≤ ([1024, 1024, 512, 2048, 0] : List Int).getD i 0 ∧ ([1024, 1024, 512, 2048, 0] : List Int).getD i 0 ≤ 4096 := by
  rcases i with _ | _ | _ | _ | _ | i
  all_goals first | decide | simp
section
variable {xs : List Int} {F : HL} {A : Option Addr} {n : Nat} {S : Setup} {T : HL}
theorem body_ok (hl : ArgL F A n xs) (k : Nat) (B : Option Addr) (c : Nat) : vbodyP (bodyG xs k B c) ⟨-12000, -9000, 12000, 9000⟩ := by
  have h1 := kv_bd hl (4 + 2 * k)
  have h2 := kv_bd hl (5 + 2 * k)
  have h3 := inv_bd ((bM xs k / 5000) % 5).toNat
  simp only [vbodyP, bodyG, winP_cons, winP_nil, and_true]
  rw [show kv xs (4 + 2 * k) = bN xs k from rfl] at h1
  rw [show kv xs (5 + 2 * k) = bM xs k from rfl] at h2
  refine ⟨h3, ⟨⟨?_, ?_⟩, ?_, ?_⟩, ⟨?_, ?_⟩, ⟨?_, ?_⟩, ⟨?_, ?_⟩, ?_, ?_⟩ <;> omega
theorem doors_ok (i : Nat) : (doorN i : Int) ≤ 16 ∧ ∀ k, k < doorN i → vdoorP 3 ((genD i).getD k drE.dflt) := by
  rcases i with _ | _ | i
  · exact ⟨by decide, fun k hk => absurd hk (Nat.not_lt_zero _)⟩
  · exact ⟨by decide, by decide⟩
  · exact ⟨by show ((2 : Nat) : Int) ≤ 16; decide, by show ∀ k, k < 2 → vdoorP 3 (([⟨0, 2⟩, ⟨1, 2⟩] : List Dr).getD k drE.dflt); decide⟩
theorem gen_valid (hl : ArgL F A n xs) (h : SetG xs S T) : valE S genR (genD (kv xs 3 % 3).toNat) = 0 := by
  have h1 := sCnt_bd hl
  have h2 := sPl_bd hl
  have hn := h.nb
  have k0 := kv_bd hl 0
  have k1 := kv_bd hl 1
  have k2 := kv_bd hl 2
  obtain ⟨e1, e2, e3, e4, e5, e6, e7, e8⟩ := h.nums
  obtain ⟨⟨m1, m2⟩, -⟩ := h.maps
  have hd := doors_ok (kv xs 3 % 3).toNat
  unfold valE
  rw [if_pos, if_pos, if_pos]
  · intro k hk
    obtain ⟨B, c, hb⟩ := h.bod k hk
    rw [hb, e1]
    exact body_ok hl k B c
  · refine ⟨?_, ?_, ⟨?_, ?_⟩, ?_, ?_⟩
    · have hpl := h.pl
      simp only [vnumP, winP_cons, winP_nil, and_true, e2, e3, e4, e5, e6, e7, e8, hpl]
      refine ⟨⟨?_, ?_⟩, ⟨?_, ?_⟩, ⟨?_, ?_⟩, ⟨⟨?_, ?_⟩, ?_, ?_⟩, ⟨?_, ?_⟩, ⟨⟨?_, ?_⟩, ?_, ?_⟩, ⟨?_, ?_⟩, ?_, ?_⟩ <;> omega
    · rw [e1]; decide
    · rw [m1]; decide
    · rw [m2]; exact hd.1
    · rw [m1]; decide
    · rw [m1, m2]; exact hd.2
  · intro k hk
    obtain ⟨B, c, hb⟩ := h.bod k hk
    rw [hb]
    have := kv_bd hl (4 + 2 * k)
    exact shape_ok ⟨by show _ ≤ kv xs (4 + 2 * k); omega, by show kv xs (4 + 2 * k) ≤ _; omega⟩ B c
end
end Go.Proofs.YtlefngomddjahaaGreatDoor
/- A caller's list of numbers, whatever form its block is written in. -/
namespace Go.Proofs.YtlefngomddjahaaGreatDoor
set_option linter.unusedSimpArgs false
set_option linter.unusedVariables false
open Go.RowKit
theorem Sp.den {P : Program} {f : FuncId} {args : Array Value} {H F F' : HL} {R : Value → HL → Prop} (h : Sp P f args H F R) (e : denL F = denL F') : Sp P f args H F' R := by
  have e2 : ∀ X : HL, denL (X ++ F) = denL (X ++ F') := fun X => by simp only [denL, List.map_append] at e ⊢; rw [e]
  intro w hR
  refine (h w (hR.den (e2 H).symm)).mono ?_
  rintro e' w' ⟨v, H', h1, h2, h3, h4⟩
  exact ⟨v, H', h1, h2, h3.den (e2 H'), h4⟩
def ArgD (F : HL) (A : Option Addr) (n : Nat) (xs : List Int) : Prop := ∃ F', denL F' = denL F ∧ ArgL F' A n xs
theorem ArgL.d {F F' : HL} {A : Option Addr} {n : Nat} {xs : List Int} (h : ArgL F A n xs) (e : denL F = denL F') : ArgD F' A n xs := ⟨F, e, h⟩
theorem ArgD.up {F X : HL} {A : Option Addr} {n : Nat} {xs : List Int} (h : ArgD F A n xs) : ArgD (X ++ F) A n xs := by
  obtain ⟨F', e, h⟩ := h
  exact ⟨X ++ F', by simp only [denL, List.map_append] at e ⊢; rw [e], h.up⟩
theorem ArgD.ex {F : HL} {A : Option Addr} {n : Nat} {xs : List Int} (h : ArgD F A n xs) : ∃ F', ArgL F' A n xs := by
  obtain ⟨F', e, h⟩ := h
  exact ⟨F', h⟩
theorem ArgD.use {F : HL} {A : Option Addr} {n : Nat} {xs : List Int} (h : ArgD F A n xs) {P : Program} {f : FuncId} {args : Array Value} {H : HL} {R : Value → HL → Prop} (k : ∀ F', ArgL F' A n xs → Sp P f args H F' R) : Sp P f args H F R := by
  obtain ⟨F', e, h⟩ := h
  exact (k F' h).den e
end Go.Proofs.YtlefngomddjahaaGreatDoor
