/- The plain half of WireRows: for every list of texts the printed function answers true, with no condition beyond the statement's own. -/
import Derived.Test.YtffcegbcjkhnoaaCRows
import Derived.Test.YtffcegbcjkhnoaaMWire3
namespace Go.Proofs.Ytffcegbcjkhnoaa.Pure
open Go.RowKit Go.Proofs.Ytffcegbcjkhnoaa.PC Go.Proofs.YtffcegbcjkhnoaaW.PrintWords Go.Proofs.YtffcegbcjkhnoaaW.PrintLast
set_option linter.unusedVariables false

def flatT (l : List ByteArray) : List Int := (l.map textB).flatten
theorem flatT_byt (l : List ByteArray) : Byt (flatT l) := fun x hx => by
  obtain ⟨a, ha, hxa⟩ := List.mem_flatten.1 hx
  obtain ⟨n, _, rfl⟩ := List.mem_map.1 ha
  exact textB_byt n x hxa
theorem flatT_cons (s : ByteArray) (l : List ByteArray) : flatT (s :: l) = textB s ++ flatT l := by simp [flatT]
theorem flatT_length (l : List ByteArray) (h : ∀ s ∈ l, s.size ≤ 300) : (flatT l).length ≤ 320 * l.length := by
  induction l with
  | nil => simp [flatT]
  | cons s l ih =>
    have h1 := ih (fun x hx => h x (List.mem_cons_of_mem _ hx))
    have h2 := h s List.mem_cons_self
    have h3 := padI_bd s.size
    rw [flatT_cons, List.length_append, textB_length, List.length_cons]
    omega
theorem flatT_snoc (l : List ByteArray) (s : ByteArray) : flatT (l ++ [s]) = flatT l ++ textB s := by simp [flatT]
theorem flatT_part (l : List ByteArray) (j : Nat) (h : j < l.length) : flatT l = flatT (l.take j) ++ (textB l[j] ++ flatT (l.drop (j + 1))) := by
  have e := List.take_append_drop j l
  rw [List.drop_eq_getElem_cons h] at e
  conv => lhs; rw [← e]
  simp only [flatT, List.map_append, List.map_cons, List.flatten_append, List.flatten_cons]
theorem rdOf_at (l : List ByteArray) (j : Nat) (h : j < l.length) : rdOf ByteArray.empty l (j : Int) = l[j] := by
  unfold rdOf
  rw [Int.toNat_natCast, List.getD_eq_getElem?_getD, List.getElem?_eq_getElem h]
  rfl
theorem rows_l1 (l : List ByteArray) (hl : l.length ≤ 100) (hr : ∀ x ∈ l, x.size ≤ 300) (m : Nat) : ∀ (j k : Nat), j + m = l.length → 40000 ≤ k →
    chandlerylaw01_WireRows.l1 (k + m + 1) l (flatT l) ((flatT (l.take j)).length : Int) (j : Int) = some true := by
  have hf := flatT_length l hr
  induction m with
  | zero =>
    intro j k hj hk
    simp only [chandlerylaw01_WireRows.l1]
    rw [if_neg (by omega), awake1 _ (by omega), List.take_of_length_le (by omega)]
    simp
  | succ m ih =>
    intro j k hj hk
    have hj' : j < l.length := by omega
    have hx := hr _ (List.getElem_mem hj')
    have hp := padI_bd l[j].size
    have hB := textB_length l[j]
    have hft := flatT_length (l.take j) (fun x hx => hr x (List.mem_of_mem_take hx))
    rw [List.length_take, Nat.min_eq_left (by omega)] at hft
    rw [show k + (m + 1) + 1 = (k + m + 1) + 1 by omega, chandlerylaw01_WireRows.l1, if_pos (by omega), textAt_f _ _ _ (flatT_byt l) (by omega) (by omega) (by omega)]
    have e : textS (flatT l) ((flatT (l.take j)).length : Int) = (l[j], ((flatT (l.take j)).length : Int) + (textB l[j]).length, 0) := by
      have := textS_put (flatT (l.take j)) (flatT (l.drop (j + 1))) l[j] (by omega)
      rw [← flatT_part l j hj'] at this
      exact this
    rw [e]
    simp only [Option.bind_some, if_true]
    rw [if_pos (by omega), rdOf_at l j hj', if_pos rfl, if_neg (by omega), w64 (by omega) (by omega)]
    have := ih (j + 1) k (by omega) hk
    rw [List.take_succ_eq_append_getElem hj', flatT_snoc, List.length_append, show ((j + 1 : Nat) : Int) = (j : Int) + 1 by omega, Int.natCast_add] at this
    exact this
theorem rows_l0 (l : List ByteArray) (hl : l.length ≤ 100) (m : Nat) : ∀ (j k : Nat), j + m = l.length → 50000 ≤ k → (∀ x ∈ l.take j, x.size ≤ 300) →
    chandlerylaw01_WireRows.l0 (k + m + 1) l (flatT (l.take j)) (j : Int) = some true := by
  induction m with
  | zero =>
    intro j k hj hk hr
    simp only [chandlerylaw01_WireRows.l0]
    have ht : l.take j = l := List.take_of_length_le (by omega)
    rw [ht] at hr ⊢
    rw [if_neg (by omega)]
    have := rows_l1 l hl hr l.length 0 (k - l.length - 1) (by omega) (by omega)
    rw [show k - l.length - 1 + l.length + 1 = k by omega, List.take_zero, show ((flatT []).length : Int) = 0 from rfl, show ((0 : Nat) : Int) = 0 from rfl] at this
    exact this
  | succ m ih =>
    intro j k hj hk hr
    have hj' : j < l.length := by omega
    rw [show k + (m + 1) + 1 = (k + m + 1) + 1 by omega, chandlerylaw01_WireRows.l0, if_pos (by omega), if_pos (by omega), rdOf_at l j hj']
    by_cases h300 : (l[j].size : Int) > 300
    · rw [if_pos h300]
    · rw [if_neg h300]
      have hft := flatT_length (l.take j) hr
      rw [List.length_take, Nat.min_eq_left (by omega)] at hft
      rw [putText_f _ _ _ (by omega) (by omega) (by omega), Option.bind_some]
      have hts : l.take (j + 1) = l.take j ++ [l[j]] := by rw [List.take_succ_eq_append_getElem hj']
      rw [← flatT_snoc, ← hts, w64 (by omega) (by omega)]
      have := ih (j + 1) k (by omega) hk (by
        rw [hts]
        intro x hx
        rcases List.mem_append.1 hx with h | h
        · exact hr x h
        · have : x = l[j] := by simpa using h
          subst this
          omega)
      rw [show ((j + 1 : Nat) : Int) = (j : Int) + 1 by omega] at this
      exact this
theorem WireRows (l0 : List ByteArray) : ∃ k, chandlerylaw01_WireRows.f k l0 = some true := by
  refine ⟨50000 + l0.length + 1, ?_⟩
  unfold chandlerylaw01_WireRows.f
  by_cases h : (l0.length : Int) > 100
  · rw [if_pos h]
  · rw [if_neg h]
    have := rows_l0 l0 (by omega) l0.length 0 50000 (by omega) (by omega) (by simp)
    rw [List.take_zero, show flatT [] = [] from rfl, show ((0 : Nat) : Int) = 0 from rfl] at this
    exact this

end Go.Proofs.Ytffcegbcjkhnoaa.Pure
