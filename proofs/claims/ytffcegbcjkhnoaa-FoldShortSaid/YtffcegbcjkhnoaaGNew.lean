/- The contracts of sha256.Start and sha256.New: the first state; a hash without bytes, in memory of its own. -/
import Derived.Test.YtffcegbcjkhnoaaGMix
namespace Go.Proofs.Ytffcegbcjkhnoaa.PC
open Go.RowKit Go.Proofs.YtffcegbcjkhnoaaW.PrintWords Go.Proofs.YtffcegbcjkhnoaaW.PrintLast Go.Proofs.YtffcegbcjkhnoaaW.PrintMore
set_option linter.unusedVariables false
set_option linter.unusedSimpArgs false
def startL : List Int := [1779033703, 3144134277, 1013904242, 2773480762, 1359893119, 2600822924, 528734635, 1541459225]
def startV : Array Value := (nums .i64 startL).toArray
theorem start_calls (w : World) : Calls Try.prog 44 #[] w fun e w' => e = .returned (.agg startV) ∧ Below w.heap.size w w' := by
  go_enter Try.func44, Try.ntmps44
  go_wp2
  refine bodyPost_ret (v := .agg startV) (results_cell_row (by rfl) _ _ w.heap.size 55 startV (0, 0) _ (by rfl) (heap_alloc_new w _) Try.underlying55 (by rfl) (by kernel_rfl)) rfl ⟨rfl, (Below.refl _ _).alloc (Nat.le_refl _) _⟩
theorem start_at (t : Nat) (h : t < 8) (w : World) : (Instr.index 55 (.agg startV) (.int .i64 (t : Int))).run Try.prog w = .ok (.int .i64 (rd startL (t : Int))) w := by
  have hs : startV.size = 8 := by decide +kernel
  have hk : startL.length = 8 := by decide +kernel
  have hv : startV[t]? = some (.int .i64 (rd startL (t : Int))) := by
    rw [rd, Int.toNat_natCast]
    simp [startV, nums, List.getElem?_eq_getElem (show t < startL.length by omega), List.getD_eq_getElem?_getD]
  obtain ⟨i, hi, hz⟩ := Option.map_eq_some_iff.1 (show (Try.prog.info? 3).map (fun i => i.size) = some 1 by kernel_rfl)
  simp [Instr.index, asIntOf, run_underlying Try.underlying55, sizeOf, typeInfo, hi, hz, part, hv]
  intro h64
  omega
/-- A hash in memory: its words, its rest, its count. -/
def hashC (st : List Int) (rest : Value) (n : Int) : Array Value := (nums .u32 st ++ [rest, .int .i64 n]).toArray
def HashAt (w : World) (g : Nat) (st : List Int) (rest : Value) (n : Int) : Prop := w.heap[g]? = some (.cells (hashC st rest n) 75 (0, 0))
theorem hashC_cell (st : List Int) (rest : Value) (n : Int) (hl : st.length = 8) (j : Nat) (hj : j < 8) : (hashC st rest n)[j]? = some (.int .u32 (rd st (j : Int))) := by
  rw [rd, Int.toNat_natCast]
  simp only [hashC, List.getElem?_toArray]
  rw [List.getElem?_append_left (by simp [nums]; omega)]
  simp [nums, List.getElem?_eq_getElem (show j < st.length by omega), List.getD_eq_getElem?_getD]
theorem hashC_put (st : List Int) (rest : Value) (n : Int) (hl : st.length = 8) (j : Nat) (hj : j < 8) (x : Int) : (hashC st rest n).setIfInBounds j (.int .u32 x) = hashC (st.set j x) rest n := by
  simp only [hashC, List.setIfInBounds_toArray]
  congr 1
  rw [List.set_append_left _ _ (by simp [nums]; omega)]
  simp [nums, List.map_set]
def newAt (i : Nat) : List Int := startL.take i ++ List.replicate (8 - i) 0
theorem newAt_length (i : Nat) (h : i ≤ 8) : (newAt i).length = 8 := by simp [newAt, startL]; omega
theorem newAt_succ (i : Nat) (h : i < 8) : (newAt i).set i (rd startL (i : Int)) = newAt (i + 1) := by
  have hl : startL.length = 8 := rfl
  rw [rd, Int.toNat_natCast, List.getD_eq_getElem?_getD, List.getElem?_eq_getElem (by omega : i < startL.length)]
  unfold newAt
  have hlen : (startL.take i).length = i := by rw [List.length_take]; omega
  rw [List.set_append_right _ _ (by omega), hlen, Nat.sub_self, show 8 - i = (8 - (i + 1)) + 1 by omega, List.replicate_succ, List.set_cons_zero, List.take_succ_eq_append_getElem (by omega : i < startL.length), List.append_assoc]
  rfl
theorem startL_u32 (t : Nat) : rd startL (t : Int) % 4294967296 = rd startL (t : Int) := by
  rw [rd, Int.toNat_natCast]
  rcases Nat.lt_or_ge t 8 with h | h
  · match t, h with
    | 0, _ => rfl
    | 1, _ => rfl
    | 2, _ => rfl
    | 3, _ => rfl
    | 4, _ => rfl
    | 5, _ => rfl
    | 6, _ => rfl
    | 7, _ => rfl
  · rw [List.getD_eq_getElem?_getD, List.getElem?_eq_none (by simpa [startL] using h)]
    rfl
set_option maxRecDepth 100000 in
theorem new_calls (w : World) : Calls Try.prog 40 #[] w fun e w' => ∃ g, e = .returned (.pointer (some ⟨g, 0, none⟩)) ∧ w.heap.size ≤ g ∧ HashAt w' g startL (.slice none 0 0) 0 ∧ Below w.heap.size w w' := by
  go_enter Try.func40, Try.ntmps40
  go_wp2_with fail
  refine (start_calls _).mono ?_
  rintro e w1 ⟨rfl, hb1⟩
  have HH : Aside0 (HashAt w1 w.heap.size (newAt 0) (.slice none 0 0) 0) := ⟨by
    unfold HashAt
    rw [hb1.block w.heap.size (by simp)]
    exact heap_alloc_new w _⟩
  have HB := Aside0.mk (below_then ((Below.refl w.heap.size w).alloc (Nat.le_refl _) _) (by simp) hb1)
  clear hb1
  go_wp2_with fail
  go_loopw [7] (fun v w2 => ∃ t : Nat, t ≤ 8 ∧ v = .int .i64 t ∧ Aside0 (HashAt w2 w.heap.size (newAt t) (.slice none 0 0) 0) ∧ Aside0 (Below w.heap.size w w2)) (fun v _ => 8 - (intOf v).toNat)
  case atStart => exact ⟨0, by omega, rfl, HH, HB⟩
  case round =>
    clear HH HB
    obtain ⟨t, ht, rfl, HH, HB⟩ := hrel
    by_cases hlt : t < 8
    · have hk := start_at t hlt
      have hu := startL_u32 t
      have d0 : wr.cell? ⟨w.heap.size, t, none⟩ = some (.int .u32 (rd (newAt t) (t : Int))) := by
        rw [cell_of_row wr _ t _ 75 (0, 0) HH.out]
        exact hashC_cell _ _ _ (newAt_length t ht) t hlt
      have f0 : wr.frozen? ⟨w.heap.size, t, none⟩ = false := frozen_of_row wr _ t _ 75 HH.out
      go_wp2_with fail
      go_roundw
      case rel =>
        refine ⟨t + 1, by omega, by go_num, ⟨?_⟩, ⟨HB.out.setCell (Nat.le_refl _) _⟩⟩
        unfold HashAt
        rw [heap_setCell_at HH.out, hashC_put _ _ _ (newAt_length t ht) t hlt, newAt_succ t hlt]
      case measure => simp [intOf]; omega
    · obtain rfl : t = 8 := by omega
      go_wp2_with fail
      go_ret
      exact ⟨w.heap.size, rfl, Nat.le_refl _, HH.out, HB.out⟩
end Go.Proofs.Ytffcegbcjkhnoaa.PC
