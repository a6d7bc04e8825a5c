/- Contracts, printed by a program. -/
import Derived.Test.YtpkincoclhpcgaaGreatDoorKh
namespace Go.Proofs.YtpkincoclhpcgaaGreatDoor
set_option linter.unusedSimpArgs false
set_option linter.unusedVariables false
open Go.RowKit
def cpy (cs : List Int) (i : Nat) : List Int := cs.take i ++ List.replicate (cs.length - i) 0
theorem zrow_irow (n : Nat) : zrow [vI 0] = irow (List.replicate n 0) := by
  funext i k
  rcases k with _ | k
  · have : (List.replicate n (0 : Int)).getD i 0 = 0 := by
      rw [List.getD_eq_getElem?_getD, List.getElem?_replicate]; split <;> rfl
    show vI 0 = vI _
    rw [this]
  · simp [zrow, irow]
theorem cpy_zero (cs : List Int) : zrow [vI 0] = irow (cpy cs 0) := by rw [zrow_irow cs.length]; simp [cpy]
theorem cpy_end (cs : List Int) : cpy cs cs.length = cs := by simp [cpy]
theorem cpy_next {cs : List Int} {i : Nat} (h : i < cs.length) : updG (irow (cpy cs i)) i 0 (vI (cs.getD i 0)) = irow (cpy cs (i + 1)) := by
  rw [irow_set (by simp [cpy]; omega)]
  congr 1
  unfold cpy
  rw [List.set_append_right _ _ (by simp; omega)]
  have e : cs.length - i = (cs.length - (i + 1)) + 1 := by omega
  rw [e, List.replicate_succ, List.take_succ_eq_append_getElem h, List.append_assoc]
  simp [List.length_take, Nat.min_eq_left (Nat.le_of_lt h), h]
theorem MemH.len {mb : Nat} {M : MemS} {k : Nat} {T : HL} (h : MemH mb M k T) : M.cs.length ≤ 1000000 := by
  cases h with
  | mk cb A cap Hl hs hc hl => exact hc
theorem upd_eq {g g' : Nat → Nat → Value} {b w n : Nat} {ty : TypeId} {fz : Nat × Nat} {A : HL} {Ts : List HL} (h : g = g') : ap ((b, .rows w n g ty fz) :: A) Ts = ap ((b, .rows w n g' ty fz) :: A) Ts := h ▸ rfl

set_option maxHeartbeats 400000 in
set_option maxRecDepth 100000 in
theorem len_mem (mb cb n : Nat) (A : Option Addr) (m cap : Nat) (base : Int) (F : HL) (hm : (mb, .lit [vS cb 0 n n, .slice A m cap, vI base] 75 (0, 0)) ∈ F) : Sp Tryz.prog 27 #[vP mb 0] [] F (fun u H' => u = vI (n : Int) ∧ H' = []) := by
  refine Sp.of_body Tryz.func27 rfl rfl rfl [(0, vP mb 0)] rfl ?_
  intro w0
  refine TR.convH (ap [] []) rfl ?_
  refine TR.seq ?_
  refine TR.reg ?_
  refine TL.seg0 1 [] [] [0] [(0, vP mb 0)] (ap [] []) [] [] (fun _ => by kernel_rfl) mn an ?_
  refine TL.fin (by kernel_rfl) ?_
  refine EX.next ?_
  refine TR.seq ?_
  refine TR.reg ?_
  refine TL.seg0 6 [(mb, .lit [vS cb 0 n n, .slice A m cap, vI base] 75 (0, 0))] [.ro 0] [2] [(2, vI (n : Int))] (ap [] []) [mb] [] (fun _ => by kernel_rfl) (mc hm mn) an ?_
  refine TL.fin (by kernel_rfl) ?_
  refine EX.next ?_
  refine TR.ret (A := []) (Ts := []) (by exact fun _ _ h => h) rfl rfl [] [] (vI (n : Int)) [] [] (fun _ => by kernel_rfl) mn an [] [] [] [] [] (by kernel_rfl) (by kernel_rfl) (by kernel_rfl) ?_
  exact ⟨rfl, rfl⟩

theorem len_any {mb : Nat} {M : MemS} {k : Nat} {T : HL} {F : HL} (h : MemH mb M k T) (hs : ∀ x ∈ T, x ∈ F) : Sp Tryz.prog 27 #[vP mb 0] [] F (fun u H' => u = vI (M.cs.length : Int) ∧ H' = []) := by
  cases h with
  | mk cb A cap Hl hsl hc hl => exact len_mem mb cb M.cs.length A M.lg.length cap M.base F (hs _ (by simp))

theorem get_nat {M : MemS} {i : Nat} (h : i < M.cs.length) : M.get (i : Int) = M.cs.getD i 0 := by
  unfold MemS.get
  rw [if_pos (by omega), Int.toNat_natCast]

set_option maxHeartbeats 400000 in
set_option maxRecDepth 100000 in
theorem cells_any (mb : Nat) (M : MemS) (k : Nat) (T F : HL) (hM : MemH mb M k T) (hT : ∀ x ∈ T, x ∈ F) : Sp Tryz.prog 10 #[vP mb 0] [] F (fun u H' => ∃ q, H' = ap [(q, .rows 1 M.cs.length (irow M.cs) 3 (0, 0))] [] ∧ u = vS q 0 M.cs.length M.cs.length) := by
  have hl := hM.len
  refine Sp.of_body Tryz.func10 rfl rfl rfl [(0, vP mb 0)] rfl ?_
  intro w0
  refine TR.convH (ap [] []) rfl ?_
  refine TR.seq ?_
  refine TR.reg ?_
  refine TL.seg0 1 [] [] [0] [(0, vP mb 0)] (ap [] []) [] [] (fun _ => by kernel_rfl) mn an ?_
  refine TL.fin (by kernel_rfl) ?_
  refine EX.next ?_
  refine TR.seq ?_
  refine TR.reg ?_
  refine TL.seg0 1 [] [] [0, 5] [(0, vP mb 0), (5, vP mb 0)] (ap [] []) [] [] (fun _ => by kernel_rfl) mn an ?_
  refine TL.callp (dst := (some 6)) (f := 27) (args := #[vP mb 0]) (H1 := (ap [] [])) (E := []) (Ob := []) [] [] [0, 6] (vI (M.cs.length : Int)) [(0, vP mb 0), (6, vI (M.cs.length : Int))] (fun _ => by kernel_rfl) mn an (len_any hM (fun x hx => List.mem_append_right _ (hT x hx))) (by kernel_rfl) ?_
  refine TL.seg 2 [] [.mk M.cs.length M.cs.length] [0, 3] (fun n1 => [(0, vP mb 0), (3, vS (n1 + 0) 0 M.cs.length M.cs.length)]) (fun n1 => (ap [((n1 + 0), .rows 1 M.cs.length (zrow [vI 0]) 3 (0, 0))] [])) (fun n1 => []) (fun n1 => [(M.cs.length : Int) = ((M.cs.length : Nat) : Int) ∧ (M.cs.length : Int) = ((M.cs.length : Nat) : Int) ∧ M.cs.length ≤ M.cs.length ∧ 8 * M.cs.length ≤ 140737488355328 ∧ 1 = 1 ∧ M.cs.length ≤ 9223372036854775807]) (fun _ => by kernel_rfl) mn (fun n1 => (ac ⟨by omega, by omega, by omega, by omega, rfl, by omega⟩ an)) ?_
  intro n1
  refine TL.fin (by kernel_rfl) ?_
  refine EX.next ?_
  refine TR.seq ?_
  refine TR.seq ?_
  refine TR.reg ?_
  refine TL.seg0 1 [] [] [0, 3, 8] [(0, vP mb 0), (3, vS (n1 + 0) 0 M.cs.length M.cs.length), (8, vP mb 0)] (ap [((n1 + 0), .rows 1 M.cs.length (zrow [vI 0]) 3 (0, 0))] []) [] [] (fun _ => by kernel_rfl) mn an ?_
  refine TL.callp (dst := (some 9)) (f := 27) (args := #[vP mb 0]) (H1 := (ap [((n1 + 0), .rows 1 M.cs.length (zrow [vI 0]) 3 (0, 0))] [])) (E := []) (Ob := []) [] [] [0, 3, 9] (vI (M.cs.length : Int)) [(0, vP mb 0), (3, vS (n1 + 0) 0 M.cs.length M.cs.length), (9, vI (M.cs.length : Int))] (fun _ => by kernel_rfl) mn an (len_any hM (fun x hx => List.mem_append_right _ (hT x hx))) (by kernel_rfl) ?_
  refine TL.seg0 1 [] [] [0, 3, 9, 10] [(0, vP mb 0), (3, vS (n1 + 0) 0 M.cs.length M.cs.length), (9, vI (M.cs.length : Int)), (10, vI 0)] (ap [((n1 + 0), .rows 1 M.cs.length (zrow [vI 0]) 3 (0, 0))] []) [] [] (fun _ => by kernel_rfl) mn an ?_
  refine TL.fin (by kernel_rfl) ?_
  refine EX.next ?_
  refine TR.block ?_
  refine TR.convH (ap [((n1 + 0), .rows 1 M.cs.length (irow (cpy M.cs 0)) 3 (0, 0))] []) (by rw [cpy_zero M.cs]) ?_
  refine TR.loop (A := [((n1 + 0), .rows 1 M.cs.length (irow (cpy M.cs 0)) 3 (0, 0))]) (Ts := []) (σ := Nat) (fun (i : Nat) => [(0, vP mb 0), (3, vS (n1 + 0) 0 M.cs.length M.cs.length), (9, vI (M.cs.length : Int)), (10, vI (i : Int))]) (fun (i : Nat) => ap [((n1 + 0), .rows 1 M.cs.length (irow (cpy M.cs i)) 3 (0, 0))] []) (fun (i : Nat) => i ≤ M.cs.length) (fun (i : Nat) => M.cs.length - i) 0 (Nat.zero_le _) [0, 3, 9, 10] (by kernel_rfl) [0] [] [] [] (by kernel_rfl) (by kernel_rfl) (by kernel_rfl) ?_
  rintro i hI2
  refine TR.seq ?_
  refine TR.reg ?_
  refine TL.seg0 1 [] [] [0, 3, 9, 10, 11] [(0, vP mb 0), (3, vS (n1 + 0) 0 M.cs.length M.cs.length), (9, vI (M.cs.length : Int)), (10, vI (i : Int)), (11, .bool (decide ((i : Int) < (M.cs.length : Int))))] (ap [((n1 + 0), .rows 1 M.cs.length (irow (cpy M.cs i)) 3 (0, 0))] []) [] [] (fun _ => by kernel_rfl) mn an ?_
  refine TL.fin (by kernel_rfl) ?_
  refine EX.next ?_
  refine TR.seq ?_
  rcases Decidable.em ((i : Int) < (M.cs.length : Int)) with h3 | h3
  · refine TR.yes (b := decide ((i : Int) < (M.cs.length : Int))) (by kernel_rfl) (by kernel_rfl) (decide_eq_true h3) ?_
    refine TR.skip ?_
    refine EX.next ?_
    refine TR.seq ?_
    refine TR.block ?_
    refine TR.seq ?_
    refine TR.reg ?_
    refine TL.seg0 2 [] [] [0, 3, 4, 9, 10] [(0, vP mb 0), (3, vS (n1 + 0) 0 M.cs.length M.cs.length), (4, vI (i : Int)), (9, vI (M.cs.length : Int)), (10, vI (i : Int))] (ap [((n1 + 0), .rows 1 M.cs.length (irow (cpy M.cs i)) 3 (0, 0))] []) [] [] (fun _ => by kernel_rfl) mn an ?_
    refine TL.fin (by kernel_rfl) ?_
    refine EX.next ?_
    refine TR.reg ?_
    refine TL.seg0 4 [] [] [0, 3, 9, 10, 13, 14, 15, 16] [(0, vP mb 0), (3, vS (n1 + 0) 0 M.cs.length M.cs.length), (9, vI (M.cs.length : Int)), (10, vI (i : Int)), (13, vS (n1 + 0) 0 M.cs.length M.cs.length), (14, vI (i : Int)), (15, vP mb 0), (16, vI (i : Int))] (ap [((n1 + 0), .rows 1 M.cs.length (irow (cpy M.cs i)) 3 (0, 0))] []) [] [] (fun _ => by kernel_rfl) mn an ?_
    refine TL.callp (dst := (some 17)) (f := 28) (args := #[vP mb 0, vI (i : Int)]) (H1 := (ap [((n1 + 0), .rows 1 M.cs.length (irow (cpy M.cs i)) 3 (0, 0))] [])) (E := []) (Ob := []) [] [] [0, 3, 9, 10, 13, 14, 17] (vI (M.get (i : Int))) [(0, vP mb 0), (3, vS (n1 + 0) 0 M.cs.length M.cs.length), (9, vI (M.cs.length : Int)), (10, vI (i : Int)), (13, vS (n1 + 0) 0 M.cs.length M.cs.length), (14, vI (i : Int)), (17, vI (M.get (i : Int)))] (fun _ => by kernel_rfl) mn an (get_any (i : Int) hM (fun x hx => List.mem_append_right _ (hT x hx))) (by kernel_rfl) ?_
    refine TL.seg0 2 [] [.ix i, .row 0 i 0] [0, 3, 9, 10] [(0, vP mb 0), (3, vS (n1 + 0) 0 M.cs.length M.cs.length), (9, vI (M.cs.length : Int)), (10, vI (i : Int))] (ap [((n1 + 0), .rows 1 M.cs.length (updG (irow (cpy M.cs i)) i 0 (vI (M.get (i : Int)))) 3 (0, 0))] []) [(n1 + 0)] [(0 + i * 1) = i * 1 + 0 ∧ i < M.cs.length, (i : Int) = ((i : Nat) : Int) ∧ i < M.cs.length] (fun _ => by kernel_rfl) mn (ac ⟨by omega, by omega⟩ (ac ⟨by omega, by omega⟩ an)) ?_
    refine TL.fin (by kernel_rfl) ?_
    refine EX.inn ?_
    refine EX.next ?_
    refine TR.reg ?_
    refine TL.seg0 2 [] [.nw] [0, 3, 9, 10] [(0, vP mb 0), (3, vS (n1 + 0) 0 M.cs.length M.cs.length), (9, vI (M.cs.length : Int)), (10, vI ((i : Int) + 1))] (ap [((n1 + 0), .rows 1 M.cs.length (updG (irow (cpy M.cs i)) i 0 (vI (M.get (i : Int)))) 3 (0, 0))] []) [] [-9223372036854775808 ≤ (i : Int) + 1 ∧ (i : Int) + 1 ≤ 9223372036854775807] (fun _ => by kernel_rfl) mn (ac ⟨by omega, by omega⟩ an) ?_
    refine TL.fin (by kernel_rfl) ?_
    refine EX.convH (ap [((n1 + 0), .rows 1 M.cs.length (irow (cpy M.cs (i + 1))) 3 (0, 0))] []) (by rw [← cpy_next (cs := M.cs) (i := i) (by omega)]; rw [get_nat (by omega)]) ?_
    refine EX.meet (A := [((n1 + 0), .rows 1 M.cs.length (irow (cpy M.cs (i + 1))) 3 (0, 0))]) (Ts := []) (i + 1) ?_ [0, 3, 9, 10] (by kernel_rfl) [0] [] [] [] (by kernel_rfl) (by kernel_rfl) (by kernel_rfl)
    try dsimp only
    exact ⟨by omega, by omega⟩
  · refine TR.no (b := decide ((i : Int) < (M.cs.length : Int))) (by kernel_rfl) (by kernel_rfl) (decide_eq_false h3) ?_
    refine TR.exit ?_
    refine EX.thn (by simp) ?_
    refine EX.thn (by simp) ?_
    refine EX.hit ?_
    refine EX.next ?_
    refine TR.seq ?_
    refine TR.reg ?_
    refine TL.seg0 2 [] [] [2] [(2, vS (n1 + 0) 0 M.cs.length M.cs.length)] (ap [((n1 + 0), .rows 1 M.cs.length (irow (cpy M.cs i)) 3 (0, 0))] []) [] [] (fun _ => by kernel_rfl) mn an ?_
    refine TL.fin (by kernel_rfl) ?_
    refine EX.next ?_
    refine TR.ret (A := [((n1 + 0), .rows 1 M.cs.length (irow (cpy M.cs i)) 3 (0, 0))]) (Ts := []) (by exact fun _ _ h => h) rfl rfl [] [] (vS (n1 + 0) 0 M.cs.length M.cs.length) [] [] (fun _ => by kernel_rfl) mn an [0] [] [] [] [((n1 + 0), .rows 1 M.cs.length (irow (cpy M.cs i)) 3 (0, 0))] (by kernel_rfl) (by kernel_rfl) (by kernel_rfl) ?_
    have ei : i = M.cs.length := by omega
    subst ei
    exact ⟨_, by rw [cpy_end]; rfl, rfl⟩

set_option maxHeartbeats 400000 in
set_option maxRecDepth 100000 in
theorem new_any (q : Nat) (cs : List Int) (k cap : Nat) (F : HL) (hq : (q, .rows 1 cs.length (irow cs) 3 (0, 0)) ∈ F) (hc : cs.length ≤ 1000000) (hk : k ≤ 100000000) (hcap : cs.length ≤ cap) : Sp Tryz.prog 8 #[vS q 0 cs.length cap] [] F (fun u H' => ∃ x : Nat × HL, H' = ap [] [x.2] ∧ (u = vP x.1 0 ∧ MemH x.1 ⟨cs, [], 0⟩ k x.2)) := by
  refine Sp.of_body Tryz.func8 rfl rfl rfl [(0, vS q 0 cs.length cap)] rfl ?_
  intro w0
  refine TR.convH (ap [] []) rfl ?_
  refine TR.seq ?_
  refine TR.reg ?_
  refine TL.seg0 1 [] [] [0] [(0, vS q 0 cs.length cap)] (ap [] []) [] [] (fun _ => by kernel_rfl) mn an ?_
  refine TL.fin (by kernel_rfl) ?_
  refine EX.next ?_
  refine TR.seq ?_
  refine TR.reg ?_
  refine TL.seg 6 [] [.mk cs.length cs.length] [0, 3] (fun n1 => [(0, vS q 0 cs.length cap), (3, vP (n1 + 1) 0)]) (fun n1 => (ap [((n1 + 1), .lit [vS (n1 + 0) 0 cs.length cs.length, .slice none 0 0, vI 0] 75 (0, 0)), ((n1 + 0), .rows 1 cs.length (zrow [vI 0]) 3 (0, 0))] [])) (fun n1 => []) (fun n1 => [(cs.length : Int) = ((cs.length : Nat) : Int) ∧ (cs.length : Int) = ((cs.length : Nat) : Int) ∧ cs.length ≤ cs.length ∧ 8 * cs.length ≤ 140737488355328 ∧ 1 = 1 ∧ cs.length ≤ 9223372036854775807]) (fun _ => by kernel_rfl) mn (fun n1 => (ac ⟨by omega, by omega, by omega, by omega, rfl, by omega⟩ an)) ?_
  intro n1
  refine TL.fin (by kernel_rfl) ?_
  refine EX.next ?_
  refine TR.seq ?_
  refine TR.seq ?_
  refine TR.reg ?_
  refine TL.seg0 3 [] [] [0, 3, 11, 12] [(0, vS q 0 cs.length cap), (3, vP (n1 + 1) 0), (11, vI (cs.length : Int)), (12, vI 0)] (ap [((n1 + 1), .lit [vS (n1 + 0) 0 cs.length cs.length, .slice none 0 0, vI 0] 75 (0, 0)), ((n1 + 0), .rows 1 cs.length (zrow [vI 0]) 3 (0, 0))] []) [] [] (fun _ => by kernel_rfl) mn an ?_
  refine TL.fin (by kernel_rfl) ?_
  refine EX.next ?_
  refine TR.block ?_
  refine TR.convH (ap [((n1 + 1), .lit [vS (n1 + 0) 0 cs.length cs.length, .slice none 0 0, vI 0] 75 (0, 0)), ((n1 + 0), .rows 1 cs.length (irow (cpy cs 0)) 3 (0, 0))] []) (by rw [cpy_zero cs]) ?_
  refine TR.loop (A := [((n1 + 1), .lit [vS (n1 + 0) 0 cs.length cs.length, .slice none 0 0, vI 0] 75 (0, 0)), ((n1 + 0), .rows 1 cs.length (irow (cpy cs 0)) 3 (0, 0))]) (Ts := []) (σ := Nat) (fun (i : Nat) => [(0, vS q 0 cs.length cap), (3, vP (n1 + 1) 0), (11, vI (cs.length : Int)), (12, vI (i : Int))]) (fun (i : Nat) => ap [((n1 + 1), .lit [vS (n1 + 0) 0 cs.length cs.length, .slice none 0 0, vI 0] 75 (0, 0)), ((n1 + 0), .rows 1 cs.length (irow (cpy cs i)) 3 (0, 0))] []) (fun (i : Nat) => i ≤ cs.length) (fun (i : Nat) => cs.length - i) 0 (Nat.zero_le _) [0, 3, 11, 12] (by kernel_rfl) [0, 1] [] [] [] (by kernel_rfl) (by kernel_rfl) (by kernel_rfl) ?_
  rintro i hI2
  refine TR.seq ?_
  refine TR.reg ?_
  refine TL.seg0 1 [] [] [0, 3, 11, 12, 13] [(0, vS q 0 cs.length cap), (3, vP (n1 + 1) 0), (11, vI (cs.length : Int)), (12, vI (i : Int)), (13, .bool (decide ((i : Int) < (cs.length : Int))))] (ap [((n1 + 1), .lit [vS (n1 + 0) 0 cs.length cs.length, .slice none 0 0, vI 0] 75 (0, 0)), ((n1 + 0), .rows 1 cs.length (irow (cpy cs i)) 3 (0, 0))] []) [] [] (fun _ => by kernel_rfl) mn an ?_
  refine TL.fin (by kernel_rfl) ?_
  refine EX.next ?_
  refine TR.seq ?_
  rcases Decidable.em ((i : Int) < (cs.length : Int)) with h3 | h3
  · refine TR.yes (b := decide ((i : Int) < (cs.length : Int))) (by kernel_rfl) (by kernel_rfl) (decide_eq_true h3) ?_
    refine TR.skip ?_
    refine EX.next ?_
    refine TR.seq ?_
    refine TR.block ?_
    refine TR.seq ?_
    refine TR.reg ?_
    refine TL.seg0 2 [] [] [0, 3, 4, 11, 12] [(0, vS q 0 cs.length cap), (3, vP (n1 + 1) 0), (4, vI (i : Int)), (11, vI (cs.length : Int)), (12, vI (i : Int))] (ap [((n1 + 1), .lit [vS (n1 + 0) 0 cs.length cs.length, .slice none 0 0, vI 0] 75 (0, 0)), ((n1 + 0), .rows 1 cs.length (irow (cpy cs i)) 3 (0, 0))] []) [] [] (fun _ => by kernel_rfl) mn an ?_
    refine TL.fin (by kernel_rfl) ?_
    refine EX.next ?_
    refine TR.draw [10] [] rfl (by kernel_rfl) ?_
    refine TD.vals [] (by kernel_rfl) [0, 4, 5, 6, 1, 7, 2, 8, 3, 9] [(q, .rows 1 cs.length (irow cs) 3 (0, 0))] [.ix i, .rorow 0 i 0, .own 0, .ix i] [0, 3, 11, 12, 23, 24] [true, true, true, true, true, true, true, true, true, true, false] [(0, vS q 0 cs.length cap), (3, vP (n1 + 1) 0), (11, vI (cs.length : Int)), (12, vI (i : Int)), (23, vI (cs.getD i 0)), (24, vP (n1 + 0) (0 + i * 1))] [(n1 + 1), q] [(i : Int) = ((i : Nat) : Int) ∧ i < cs.length, (0 + i * 1) = i * 1 + 0 ∧ i < cs.length, (i : Int) = ((i : Nat) : Int) ∧ i < cs.length] (by kernel_rfl) (by kernel_rfl) (mc hq mn) (ac ⟨by omega, by omega⟩ (ac ⟨by omega, by omega⟩ (ac ⟨by omega, by omega⟩ an))) 1 rfl ?_
    refine TD.one 10 (by kernel_rfl) 0 rfl fun a_ hF_ hcl_ => ?_
    refine OPJ.ev [] [.row 1 i 0] [0, 3, 11, 12] (fun _ => [(0, vS q 0 cs.length cap), (3, vP (n1 + 1) 0), (11, vI (cs.length : Int)), (12, vI (i : Int))]) (fun _ => (ap [((n1 + 1), .lit [vS (n1 + 0) 0 cs.length cs.length, .slice none 0 0, vI 0] 75 (0, 0)), ((n1 + 0), .rows 1 cs.length (updG (irow (cpy cs i)) i 0 (vI (cs.getD i 0))) 3 (0, 0))] [])) (fun _ => [(n1 + 0)]) (fun _ => [(0 + i * 1) = i * 1 + 0 ∧ i < cs.length]) (fun _ => by kernel_rfl) mn (fun _ => (ac ⟨by omega, by omega⟩ an)) (.inl ⟨[], fun _ => by kernel_rfl⟩) (.inl (by decide)) (fun _ => ?_) hF_ hcl_
    refine TD.fin (by kernel_rfl) (EX.np ?_)
    refine EX.inn ?_
    refine EX.next ?_
    refine TR.reg ?_
    refine TL.seg0 2 [] [.nw] [0, 3, 11, 12] [(0, vS q 0 cs.length cap), (3, vP (n1 + 1) 0), (11, vI (cs.length : Int)), (12, vI ((i : Int) + 1))] (ap [((n1 + 1), .lit [vS (n1 + 0) 0 cs.length cs.length, .slice none 0 0, vI 0] 75 (0, 0)), ((n1 + 0), .rows 1 cs.length (updG (irow (cpy cs i)) i 0 (vI (cs.getD i 0))) 3 (0, 0))] []) [] [-9223372036854775808 ≤ (i : Int) + 1 ∧ (i : Int) + 1 ≤ 9223372036854775807] (fun _ => by kernel_rfl) mn (ac ⟨by omega, by omega⟩ an) ?_
    refine TL.fin (by kernel_rfl) ?_
    refine EX.convH (ap [((n1 + 1), .lit [vS (n1 + 0) 0 cs.length cs.length, .slice none 0 0, vI 0] 75 (0, 0)), ((n1 + 0), .rows 1 cs.length (irow (cpy cs (i + 1))) 3 (0, 0))] []) (by rw [← cpy_next (cs := cs) (i := i) (by omega)]) ?_
    refine EX.meet (A := [((n1 + 1), .lit [vS (n1 + 0) 0 cs.length cs.length, .slice none 0 0, vI 0] 75 (0, 0)), ((n1 + 0), .rows 1 cs.length (irow (cpy cs (i + 1))) 3 (0, 0))]) (Ts := []) (i + 1) ?_ [0, 3, 11, 12] (by kernel_rfl) [0, 1] [] [] [] (by kernel_rfl) (by kernel_rfl) (by kernel_rfl)
    try dsimp only
    exact ⟨by omega, by omega⟩
  · refine TR.no (b := decide ((i : Int) < (cs.length : Int))) (by kernel_rfl) (by kernel_rfl) (decide_eq_false h3) ?_
    refine TR.exit ?_
    refine EX.thn (by simp) ?_
    refine EX.thn (by simp) ?_
    refine EX.hit ?_
    refine EX.next ?_
    refine TR.seq ?_
    refine TR.reg ?_
    refine TL.seg0 2 [] [] [2] [(2, vP (n1 + 1) 0)] (ap [((n1 + 1), .lit [vS (n1 + 0) 0 cs.length cs.length, .slice none 0 0, vI 0] 75 (0, 0)), ((n1 + 0), .rows 1 cs.length (irow (cpy cs i)) 3 (0, 0))] []) [] [] (fun _ => by kernel_rfl) mn an ?_
    refine TL.fin (by kernel_rfl) ?_
    refine EX.next ?_
    refine TR.ret (A := [((n1 + 1), .lit [vS (n1 + 0) 0 cs.length cs.length, .slice none 0 0, vI 0] 75 (0, 0)), ((n1 + 0), .rows 1 cs.length (irow (cpy cs i)) 3 (0, 0))]) (Ts := []) (by exact fun _ _ h => h) rfl rfl [] [] (vP (n1 + 1) 0) [] [] (fun _ => by kernel_rfl) mn an [0, 1] [] [] [] [((n1 + 1), .lit [vS (n1 + 0) 0 cs.length cs.length, .slice none 0 0, vI 0] 75 (0, 0)), ((n1 + 0), .rows 1 cs.length (irow (cpy cs i)) 3 (0, 0))] (by kernel_rfl) (by kernel_rfl) (by kernel_rfl) ?_
    have ei : i = cs.length := by omega
    subst ei
    rw [cpy_end]
    have hmm := MemH.mk (mb := (n1 + 1)) (M := ⟨cs, [], 0⟩) (k := k) (n1 + 0) none 0 [] (SlIs.nil _ _) hc (show ([] : List (Int × Int)).length + k ≤ 100000000 by simpa using hk)
    exact ⟨((n1 + 1), _), rfl, rfl, hmm⟩
end Go.Proofs.YtpkincoclhpcgaaGreatDoor
