/- Contracts, printed by a program. -/
import Derived.Test.YtampdcgphdnnhaaGreatDoorT44
namespace Go.Proofs.YtampdcgphdnnhaaGreatDoor
set_option linter.unusedSimpArgs false
set_option linter.unusedVariables false
open Go.RowKit
def strE : Enc ByteArray := ⟨1, fun p k => match k with | 0 => .string p | _ => .string p, ⟨#[]⟩⟩
noncomputable def strEI : TypeInfo := match Tryz.prog.info? 9 with | some i => i | none => ⟨.bool, "", 0, 0, false, 0, 0, none, false, #[]⟩
noncomputable def strEZ : Value := match strEI.zero with | some z => z | none => .bool false
theorem strEOk : EncOk strE Tryz.prog 9 strEI strEZ where
  info := by kernel_rfl
  zero := by kernel_rfl
  size := by kernel_rfl
  zsize := by kernel_rfl
  zcell := fun k hk => by
    have h : ∀ k < 1, strEZ.cells[k]? = some (strE.cell strE.dflt k) := by intro k hk; (iterate 1 (rcases k with _ | k; · kernel_rfl)); omega
    exact h k hk
  one := fun x k => by unfold strE; dsimp only; split <;> rfl
  bytes := Nat.le_of_ble_eq_true (by kernel_rfl)

set_option maxHeartbeats 2000000 in
set_option maxRecDepth 100000 in
theorem vars_any (x y z : Nd) (F : HL) (hx : Ht 10 x) (hy : Ht 10 y) (hw : Ht 10 z) (hN : NdIn F x) (hN2 : NdIn F y) (hN3 : NdIn F z) : Sp Tryz.prog 48 #[.agg #[vI x.k, vI x.n, .string x.s, .slice x.A x.kids.length x.c, vI y.k, vI y.n, .string y.s, .slice y.A y.kids.length y.c, vI z.k, vI z.n, .string z.s, .slice z.A z.kids.length z.c]] [] F (fun u H' => ∃ x : List ByteArray × Option Addr × Nat × HL, H' = ap [] [x.2.2.2] ∧ (u = .slice x.2.1 x.1.length x.2.2.1 ∧ SlIs strE 9 x.1 x.2.1 x.2.2.1 x.2.2.2 ∧ zeroOff x.2.1 ∧ x.1.length ≤ 100000)) := by
  have epw : pw 10 = 29524 := by decide
  have hq1_ := pre_len hx
  have hq2_ := pre_len hy
  have hq3_ := pre_len hw
  refine Sp.runM Tryz.func48 rfl mn (A := []) (Ts := []) rfl fun w0 => ?_
  refine RN.go 27 ([.own 0] ++ ow 3 12) fun n1 => RN.rounds 3 <| RN.go 21 (ow 0 8) fun n2 => RN.ct (Hp := []) (Tp := []) [] [] (nodf_any x _) ?_
  rintro _ nb3 rfl
  refine RN.go 3 [] fun _ => RN.dn 3 (.obj (smap [])) <| RN.nt <| RN.range (σ := List ByteArray × Option Addr × Nat × HL × List (ByteArray × Value)) (τ := List ByteArray × Option Addr × Nat × HL × List (ByteArray × Value) × Nd × Nat) (encs := fun (x_ : Nd) => #[.agg #[vI x_.k, vI x_.n, .string x_.s, .slice x_.A x_.kids.length x_.c]]) (xs := (preL 10 x)) (enters_of Tryz.func103 (by kernel_rfl) rfl) (fun ⟨nm_, A_, c_, T_, kv_⟩ => ([((n1 + 1), .lit [.slice A_ nm_.length c_] 111 (0, 0)), ((n1 + 2), .obj (smap kv_)), ((n1 + 3), .lit [.map (some (n1 + 2))] 106 (0, 0))], [T_])) (fun i_ ⟨nm_, A_, c_, T_, kv_⟩ => SlIs strE 9 nm_ A_ c_ T_ ∧ zeroOff A_ ∧ nm_.length ≤ 0 + i_ ∧ AllInt kv_) (fun c_ ⟨nm_, A_, c_, T_, kv_⟩ => False) (fun ⟨nm_, A_, c_, T_, kv_, z_, nq⟩ => ⟨[(3, vP (n1 + 1) 0), (4, vP (n1 + 3) 0), (7, vP (nq + 0) 0), (12, .agg #[vI x.k, vI x.n, .string x.s, .slice x.A x.kids.length x.c, vI y.k, vI y.n, .string y.s, .slice y.A y.kids.length y.c, vI z.k, vI z.n, .string z.s, .slice z.A z.kids.length z.c]), (13, vI 0)], [((nq + 0), .lit [vI z_.k, vI z_.n, .string z_.s, .slice z_.A z_.kids.length z_.c] 82 (0, 0)), ((n1 + 1), .lit [.slice A_ nm_.length c_] 111 (0, 0)), ((n1 + 2), .obj (smap kv_)), ((n1 + 3), .lit [.map (some (n1 + 2))] 106 (0, 0))], [T_], True, 0⟩) (fun i_ x_ ⟨nm_, A_, c_, T_, kv_, z_, nq⟩ => z_ = x_ ∧ SlIs strE 9 nm_ A_ c_ T_ ∧ zeroOff A_ ∧ nm_.length ≤ 0 + i_ ∧ AllInt kv_) ([], none, 0, ([] : HL), []) (⟨(SlIs.nil _ _), trivial, (by simp only [List.length_nil]; omega), (fun x hx => by simp at hx)⟩) [4, 3, 2] [0] (nods_it nb3 10 x _ (in_ap 0) hx hN.up) ?_ ?_ ?_ ?_
  · rintro l_ i_ x_ ⟨nm_, A_, c_, T_, kv_⟩ Y4 w5 hx6 ⟨hs_, hz_, hl_, hkv_⟩ mt7
    refine RN.go 4 [.own 0, .own 0, .own 0, .own 0] fun n8 => ?_
    refine mt7 (nm_, A_, c_, T_, kv_, x_, n8) [0, 1, 2, 3] [0] ?_
    try dsimp only
    exact ⟨rfl, hs_, hz_, hl_, hkv_⟩
  · rintro l_ i_ x_ ⟨nm_, A_, c_, T_, kv_, z_, nq⟩ Y9 w10 hx11 ⟨rfl, hs_, hz_, hl_, hkv_⟩
    have hl0_ := (List.getElem?_eq_some_iff.1 hx11).1
    have hl1_ := pre_len hx
    have epw : pw 10 = 29524 := by decide
    refine RN.go 8 [.own 0] fun _ => RN.en (z_.k = 1) 22 (fun h12 => ?_) fun h12 => ?_
    · refine RN.goO 28 [.own 3, .own 0, .mp 2 kv_ (.tuple #[vI (iget kv_ z_.s), .bool ((sget kv_ z_.s).isSome)])] (fun _ => [smap kv_ = smap kv_ ∧ lkV kv_ z_.s true (vI 0) = .tuple #[vI (iget kv_ z_.s), .bool ((sget kv_ z_.s).isSome)]]) (fun _ => (ac ⟨rfl, (lk_int2 hkv_ _)⟩ an)) fun _ => RN.eB ((sget kv_ z_.s).isSome) 35 (fun h13 => ?_) fun h13 => ?_
      · refine RN.go 3 [] fun _ => RN.rn (nm_, A_, c_, T_, kv_) [1, 2, 3] [0] ?_
        try dsimp only
        exact ⟨hs_, hz_, by omega, hkv_⟩
      · refine RN.go 8 [.own 3, .own 0, .own 1] fun _ => RN.mu (kv := kv_) (k := z_.s) (v := vI (nm_.length : Int)) 2 <| RN.go 7 [.own 1, .own 0] fun n14 => RN.app strEOk nm_ [z_.s] 0 0 rfl hs_ (by simp; omega) ?_
        rintro A15 c16 T17 ⟨hs18, hz19⟩
        refine RN.go 3 [.own 2] fun _ => RN.bv 2 (congrArg (fun v_ => (.lit [.slice A15 v_ c16] 111 (0, 0) : Blk)) (show nm_.length + 1 = (nm_ ++ [z_.s]).length by simp)) <| RN.rn (nm_ ++ [z_.s], A15, c16, T17, (sput kv_ z_.s (vI (nm_.length : Int)))) [2, 3, 4] [0] ?_
        try dsimp only
        exact ⟨hs18, hz19 hz_, by rw [List.length_append]; simp only [List.length_singleton]; omega, hkv_.put _ _⟩
    · refine RN.go 6 [.own 0] fun _ => RN.en (z_.k = 10) 26 (fun h20 => ?_) fun h20 => ?_
      · refine RN.goO 22 [.own 3, .own 0, .mp 2 kv_ (.tuple #[vI (iget kv_ z_.s), .bool ((sget kv_ z_.s).isSome)])] (fun _ => [smap kv_ = smap kv_ ∧ lkV kv_ z_.s true (vI 0) = .tuple #[vI (iget kv_ z_.s), .bool ((sget kv_ z_.s).isSome)]]) (fun _ => (ac ⟨rfl, (lk_int2 hkv_ _)⟩ an)) fun _ => RN.eB ((sget kv_ z_.s).isSome) 35 (fun h21 => ?_) fun h21 => ?_
        · refine RN.go 3 [] fun _ => RN.rn (nm_, A_, c_, T_, kv_) [1, 2, 3] [0] ?_
          try dsimp only
          exact ⟨hs_, hz_, by omega, hkv_⟩
        · refine RN.go 8 [.own 3, .own 0, .own 1] fun _ => RN.mu (kv := kv_) (k := z_.s) (v := vI (nm_.length : Int)) 2 <| RN.go 7 [.own 1, .own 0] fun n22 => RN.app strEOk nm_ [z_.s] 0 0 rfl hs_ (by simp; omega) ?_
          rintro A23 c24 T25 ⟨hs26, hz27⟩
          refine RN.go 3 [.own 2] fun _ => RN.bv 2 (congrArg (fun v_ => (.lit [.slice A23 v_ c24] 111 (0, 0) : Blk)) (show nm_.length + 1 = (nm_ ++ [z_.s]).length by simp)) <| RN.rn (nm_ ++ [z_.s], A23, c24, T25, (sput kv_ z_.s (vI (nm_.length : Int)))) [2, 3, 4] [0] ?_
          try dsimp only
          exact ⟨hs26, hz27 hz_, by rw [List.length_append]; simp only [List.length_singleton]; omega, hkv_.put _ _⟩
      · refine RN.go 4 [] fun _ => RN.rn (nm_, A_, c_, T_, kv_) [1, 2, 3] [0] ?_
        try dsimp only
        exact ⟨hs_, hz_, by omega, hkv_⟩
  · rintro d28 ⟨nm_, A_, c_, T_, kv_⟩ ⟨hs_, hz_, hl_, hkv_⟩
    have hq0_ := pre_len hx
    refine RN.go 29 (ow 0 8) fun n29 => RN.ct (Hp := []) (Tp := []) [] [] (nodf_any y _) ?_
    rintro _ nb30 rfl
    refine RN.go 3 [] fun _ => RN.range (σ := List ByteArray × Option Addr × Nat × HL × List (ByteArray × Value)) (τ := List ByteArray × Option Addr × Nat × HL × List (ByteArray × Value) × Nd × Nat) (encs := fun (x_ : Nd) => #[.agg #[vI x_.k, vI x_.n, .string x_.s, .slice x_.A x_.kids.length x_.c]]) (xs := (preL 10 y)) (enters_of Tryz.func103 (by kernel_rfl) rfl) (fun ⟨nm_, A_, c_, T_, kv_⟩ => ([((n1 + 1), .lit [.slice A_ nm_.length c_] 111 (0, 0)), ((n1 + 2), .obj (smap kv_)), ((n1 + 3), .lit [.map (some (n1 + 2))] 106 (0, 0))], [T_])) (fun i_ ⟨nm_, A_, c_, T_, kv_⟩ => SlIs strE 9 nm_ A_ c_ T_ ∧ zeroOff A_ ∧ nm_.length ≤ (0 + (preL 10 x).length) + i_ ∧ AllInt kv_) (fun c_ ⟨nm_, A_, c_, T_, kv_⟩ => False) (fun ⟨nm_, A_, c_, T_, kv_, z_, nq⟩ => ⟨[(3, vP (n1 + 1) 0), (4, vP (n1 + 3) 0), (7, vP (nq + 0) 0), (12, .agg #[vI x.k, vI x.n, .string x.s, .slice x.A x.kids.length x.c, vI y.k, vI y.n, .string y.s, .slice y.A y.kids.length y.c, vI z.k, vI z.n, .string z.s, .slice z.A z.kids.length z.c]), (13, vI 1)], [((nq + 0), .lit [vI z_.k, vI z_.n, .string z_.s, .slice z_.A z_.kids.length z_.c] 82 (0, 0)), ((n1 + 1), .lit [.slice A_ nm_.length c_] 111 (0, 0)), ((n1 + 2), .obj (smap kv_)), ((n1 + 3), .lit [.map (some (n1 + 2))] 106 (0, 0))], [T_], True, 0⟩) (fun i_ x_ ⟨nm_, A_, c_, T_, kv_, z_, nq⟩ => z_ = x_ ∧ SlIs strE 9 nm_ A_ c_ T_ ∧ zeroOff A_ ∧ nm_.length ≤ (0 + (preL 10 x).length) + i_ ∧ AllInt kv_) (nm_, A_, c_, T_, kv_) (⟨hs_, hz_, (by omega), hkv_⟩) [3, 4, 5] [0] (nods_it nb30 10 y _ (in_ap 0) hy hN2.up) ?_ ?_ ?_ ?_
    · rintro l_ i_ x_ ⟨nm_, A_, c_, T_, kv_⟩ Y31 w32 hx33 ⟨hs_, hz_, hl_, hkv_⟩ mt34
      refine RN.go 4 [.own 0, .own 0, .own 0, .own 0] fun n35 => ?_
      refine mt34 (nm_, A_, c_, T_, kv_, x_, n35) [0, 1, 2, 3] [0] ?_
      try dsimp only
      exact ⟨rfl, hs_, hz_, hl_, hkv_⟩
    · rintro l_ i_ x_ ⟨nm_, A_, c_, T_, kv_, z_, nq⟩ Y36 w37 hx38 ⟨rfl, hs_, hz_, hl_, hkv_⟩
      have hl0_ := (List.getElem?_eq_some_iff.1 hx38).1
      have hl1_ := pre_len hy
      have epw : pw 10 = 29524 := by decide
      refine RN.go 8 [.own 0] fun _ => RN.en (z_.k = 1) 22 (fun h39 => ?_) fun h39 => ?_
      · refine RN.goO 28 [.own 3, .own 0, .mp 2 kv_ (.tuple #[vI (iget kv_ z_.s), .bool ((sget kv_ z_.s).isSome)])] (fun _ => [smap kv_ = smap kv_ ∧ lkV kv_ z_.s true (vI 0) = .tuple #[vI (iget kv_ z_.s), .bool ((sget kv_ z_.s).isSome)]]) (fun _ => (ac ⟨rfl, (lk_int2 hkv_ _)⟩ an)) fun _ => RN.eB ((sget kv_ z_.s).isSome) 35 (fun h40 => ?_) fun h40 => ?_
        · refine RN.go 3 [] fun _ => RN.rn (nm_, A_, c_, T_, kv_) [1, 2, 3] [0] ?_
          try dsimp only
          exact ⟨hs_, hz_, by omega, hkv_⟩
        · refine RN.go 8 [.own 3, .own 0, .own 1] fun _ => RN.mu (kv := kv_) (k := z_.s) (v := vI (nm_.length : Int)) 2 <| RN.go 7 [.own 1, .own 0] fun n41 => RN.app strEOk nm_ [z_.s] 0 0 rfl hs_ (by simp; omega) ?_
          rintro A42 c43 T44 ⟨hs45, hz46⟩
          refine RN.go 3 [.own 2] fun _ => RN.bv 2 (congrArg (fun v_ => (.lit [.slice A42 v_ c43] 111 (0, 0) : Blk)) (show nm_.length + 1 = (nm_ ++ [z_.s]).length by simp)) <| RN.rn (nm_ ++ [z_.s], A42, c43, T44, (sput kv_ z_.s (vI (nm_.length : Int)))) [2, 3, 4] [0] ?_
          try dsimp only
          exact ⟨hs45, hz46 hz_, by rw [List.length_append]; simp only [List.length_singleton]; omega, hkv_.put _ _⟩
      · refine RN.go 6 [.own 0] fun _ => RN.en (z_.k = 10) 26 (fun h47 => ?_) fun h47 => ?_
        · refine RN.goO 22 [.own 3, .own 0, .mp 2 kv_ (.tuple #[vI (iget kv_ z_.s), .bool ((sget kv_ z_.s).isSome)])] (fun _ => [smap kv_ = smap kv_ ∧ lkV kv_ z_.s true (vI 0) = .tuple #[vI (iget kv_ z_.s), .bool ((sget kv_ z_.s).isSome)]]) (fun _ => (ac ⟨rfl, (lk_int2 hkv_ _)⟩ an)) fun _ => RN.eB ((sget kv_ z_.s).isSome) 35 (fun h48 => ?_) fun h48 => ?_
          · refine RN.go 3 [] fun _ => RN.rn (nm_, A_, c_, T_, kv_) [1, 2, 3] [0] ?_
            try dsimp only
            exact ⟨hs_, hz_, by omega, hkv_⟩
          · refine RN.go 8 [.own 3, .own 0, .own 1] fun _ => RN.mu (kv := kv_) (k := z_.s) (v := vI (nm_.length : Int)) 2 <| RN.go 7 [.own 1, .own 0] fun n49 => RN.app strEOk nm_ [z_.s] 0 0 rfl hs_ (by simp; omega) ?_
            rintro A50 c51 T52 ⟨hs53, hz54⟩
            refine RN.go 3 [.own 2] fun _ => RN.bv 2 (congrArg (fun v_ => (.lit [.slice A50 v_ c51] 111 (0, 0) : Blk)) (show nm_.length + 1 = (nm_ ++ [z_.s]).length by simp)) <| RN.rn (nm_ ++ [z_.s], A50, c51, T52, (sput kv_ z_.s (vI (nm_.length : Int)))) [2, 3, 4] [0] ?_
            try dsimp only
            exact ⟨hs53, hz54 hz_, by rw [List.length_append]; simp only [List.length_singleton]; omega, hkv_.put _ _⟩
        · refine RN.go 4 [] fun _ => RN.rn (nm_, A_, c_, T_, kv_) [1, 2, 3] [0] ?_
          try dsimp only
          exact ⟨hs_, hz_, by omega, hkv_⟩
    · rintro d55 ⟨nm_, A_, c_, T_, kv_⟩ ⟨hs_, hz_, hl_, hkv_⟩
      have hq1_ := pre_len hy
      refine RN.go 29 (ow 0 8) fun n56 => RN.ct (Hp := []) (Tp := []) [] [] (nodf_any z _) ?_
      rintro _ nb57 rfl
      refine RN.go 3 [] fun _ => RN.range (σ := List ByteArray × Option Addr × Nat × HL × List (ByteArray × Value)) (τ := List ByteArray × Option Addr × Nat × HL × List (ByteArray × Value) × Nd × Nat) (encs := fun (x_ : Nd) => #[.agg #[vI x_.k, vI x_.n, .string x_.s, .slice x_.A x_.kids.length x_.c]]) (xs := (preL 10 z)) (enters_of Tryz.func103 (by kernel_rfl) rfl) (fun ⟨nm_, A_, c_, T_, kv_⟩ => ([((n1 + 1), .lit [.slice A_ nm_.length c_] 111 (0, 0)), ((n1 + 2), .obj (smap kv_)), ((n1 + 3), .lit [.map (some (n1 + 2))] 106 (0, 0))], [T_])) (fun i_ ⟨nm_, A_, c_, T_, kv_⟩ => SlIs strE 9 nm_ A_ c_ T_ ∧ zeroOff A_ ∧ nm_.length ≤ ((0 + (preL 10 x).length) + (preL 10 y).length) + i_ ∧ AllInt kv_) (fun c_ ⟨nm_, A_, c_, T_, kv_⟩ => False) (fun ⟨nm_, A_, c_, T_, kv_, z_, nq⟩ => ⟨[(3, vP (n1 + 1) 0), (4, vP (n1 + 3) 0), (7, vP (nq + 0) 0), (12, .agg #[vI x.k, vI x.n, .string x.s, .slice x.A x.kids.length x.c, vI y.k, vI y.n, .string y.s, .slice y.A y.kids.length y.c, vI z.k, vI z.n, .string z.s, .slice z.A z.kids.length z.c]), (13, vI 2)], [((nq + 0), .lit [vI z_.k, vI z_.n, .string z_.s, .slice z_.A z_.kids.length z_.c] 82 (0, 0)), ((n1 + 1), .lit [.slice A_ nm_.length c_] 111 (0, 0)), ((n1 + 2), .obj (smap kv_)), ((n1 + 3), .lit [.map (some (n1 + 2))] 106 (0, 0))], [T_], True, 0⟩) (fun i_ x_ ⟨nm_, A_, c_, T_, kv_, z_, nq⟩ => z_ = x_ ∧ SlIs strE 9 nm_ A_ c_ T_ ∧ zeroOff A_ ∧ nm_.length ≤ ((0 + (preL 10 x).length) + (preL 10 y).length) + i_ ∧ AllInt kv_) (nm_, A_, c_, T_, kv_) (⟨hs_, hz_, (by omega), hkv_⟩) [3, 4, 5] [0] (nods_it nb57 10 z _ (in_ap 0) hw hN3.up) ?_ ?_ ?_ ?_
      · rintro l_ i_ x_ ⟨nm_, A_, c_, T_, kv_⟩ Y58 w59 hx60 ⟨hs_, hz_, hl_, hkv_⟩ mt61
        refine RN.go 4 [.own 0, .own 0, .own 0, .own 0] fun n62 => ?_
        refine mt61 (nm_, A_, c_, T_, kv_, x_, n62) [0, 1, 2, 3] [0] ?_
        try dsimp only
        exact ⟨rfl, hs_, hz_, hl_, hkv_⟩
      · rintro l_ i_ x_ ⟨nm_, A_, c_, T_, kv_, z_, nq⟩ Y63 w64 hx65 ⟨rfl, hs_, hz_, hl_, hkv_⟩
        have hl0_ := (List.getElem?_eq_some_iff.1 hx65).1
        have hl1_ := pre_len hw
        have epw : pw 10 = 29524 := by decide
        refine RN.go 8 [.own 0] fun _ => RN.en (z_.k = 1) 22 (fun h66 => ?_) fun h66 => ?_
        · refine RN.goO 28 [.own 3, .own 0, .mp 2 kv_ (.tuple #[vI (iget kv_ z_.s), .bool ((sget kv_ z_.s).isSome)])] (fun _ => [smap kv_ = smap kv_ ∧ lkV kv_ z_.s true (vI 0) = .tuple #[vI (iget kv_ z_.s), .bool ((sget kv_ z_.s).isSome)]]) (fun _ => (ac ⟨rfl, (lk_int2 hkv_ _)⟩ an)) fun _ => RN.eB ((sget kv_ z_.s).isSome) 35 (fun h67 => ?_) fun h67 => ?_
          · refine RN.go 3 [] fun _ => RN.rn (nm_, A_, c_, T_, kv_) [1, 2, 3] [0] ?_
            try dsimp only
            exact ⟨hs_, hz_, by omega, hkv_⟩
          · refine RN.go 8 [.own 3, .own 0, .own 1] fun _ => RN.mu (kv := kv_) (k := z_.s) (v := vI (nm_.length : Int)) 2 <| RN.go 7 [.own 1, .own 0] fun n68 => RN.app strEOk nm_ [z_.s] 0 0 rfl hs_ (by simp; omega) ?_
            rintro A69 c70 T71 ⟨hs72, hz73⟩
            refine RN.go 3 [.own 2] fun _ => RN.bv 2 (congrArg (fun v_ => (.lit [.slice A69 v_ c70] 111 (0, 0) : Blk)) (show nm_.length + 1 = (nm_ ++ [z_.s]).length by simp)) <| RN.rn (nm_ ++ [z_.s], A69, c70, T71, (sput kv_ z_.s (vI (nm_.length : Int)))) [2, 3, 4] [0] ?_
            try dsimp only
            exact ⟨hs72, hz73 hz_, by rw [List.length_append]; simp only [List.length_singleton]; omega, hkv_.put _ _⟩
        · refine RN.go 6 [.own 0] fun _ => RN.en (z_.k = 10) 26 (fun h74 => ?_) fun h74 => ?_
          · refine RN.goO 22 [.own 3, .own 0, .mp 2 kv_ (.tuple #[vI (iget kv_ z_.s), .bool ((sget kv_ z_.s).isSome)])] (fun _ => [smap kv_ = smap kv_ ∧ lkV kv_ z_.s true (vI 0) = .tuple #[vI (iget kv_ z_.s), .bool ((sget kv_ z_.s).isSome)]]) (fun _ => (ac ⟨rfl, (lk_int2 hkv_ _)⟩ an)) fun _ => RN.eB ((sget kv_ z_.s).isSome) 35 (fun h75 => ?_) fun h75 => ?_
            · refine RN.go 3 [] fun _ => RN.rn (nm_, A_, c_, T_, kv_) [1, 2, 3] [0] ?_
              try dsimp only
              exact ⟨hs_, hz_, by omega, hkv_⟩
            · refine RN.go 8 [.own 3, .own 0, .own 1] fun _ => RN.mu (kv := kv_) (k := z_.s) (v := vI (nm_.length : Int)) 2 <| RN.go 7 [.own 1, .own 0] fun n76 => RN.app strEOk nm_ [z_.s] 0 0 rfl hs_ (by simp; omega) ?_
              rintro A77 c78 T79 ⟨hs80, hz81⟩
              refine RN.go 3 [.own 2] fun _ => RN.bv 2 (congrArg (fun v_ => (.lit [.slice A77 v_ c78] 111 (0, 0) : Blk)) (show nm_.length + 1 = (nm_ ++ [z_.s]).length by simp)) <| RN.rn (nm_ ++ [z_.s], A77, c78, T79, (sput kv_ z_.s (vI (nm_.length : Int)))) [2, 3, 4] [0] ?_
              try dsimp only
              exact ⟨hs80, hz81 hz_, by rw [List.length_append]; simp only [List.length_singleton]; omega, hkv_.put _ _⟩
          · refine RN.go 4 [] fun _ => RN.rn (nm_, A_, c_, T_, kv_) [1, 2, 3] [0] ?_
            try dsimp only
            exact ⟨hs_, hz_, by omega, hkv_⟩
      · rintro d82 ⟨nm_, A_, c_, T_, kv_⟩ ⟨hs_, hz_, hl_, hkv_⟩
        have hq2_ := pre_len hw
        refine RN.go 26 [.own 1] fun _ => RN.retM [d82, d55, d28] [0, 6, 9] [] [] [0] (v := .slice A_ nm_.length c_) (H' := (ap [] [T_])) ?_
        exact ⟨(nm_, A_, c_, T_), rfl, rfl, hs_, hz_, (by dsimp only; omega)⟩
      · exact fun _ _ _ h => h.elim
    · exact fun _ _ _ h => h.elim
  · exact fun _ _ _ h => h.elim
end Go.Proofs.YtampdcgphdnnhaaGreatDoor
