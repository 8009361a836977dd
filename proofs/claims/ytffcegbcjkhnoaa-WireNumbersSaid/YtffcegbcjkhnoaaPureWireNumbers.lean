/- The plain half of WireNumbers: for every input that the statement lets in, the printed function answers true, with no condition beyond the statement's own. -/
import Derived.Test.YtffcegbcjkhnoaaCNums
import Derived.Test.YtffcegbcjkhnoaaMWire3
namespace Go.Proofs.Ytffcegbcjkhnoaa.Pure
open Go.RowKit Go.Proofs.Ytffcegbcjkhnoaa.PC Go.Proofs.YtffcegbcjkhnoaaW.PrintWords Go.Proofs.YtffcegbcjkhnoaaW.PrintLast
set_option linter.unusedVariables false

def flat (l : List Int) : List Int := (l.map numB).flatten
theorem flat_length (l : List Int) : (flat l).length = 8 * l.length := by
  induction l with
  | nil => rfl
  | cons a l ih => simp [flat, numB_length] at ih ⊢; omega
theorem flat_byt (l : List Int) : Byt (flat l) := fun x hx => by
  obtain ⟨a, ha, hxa⟩ := List.mem_flatten.1 hx
  obtain ⟨n, _, rfl⟩ := List.mem_map.1 ha
  exact numB_byt n x hxa
theorem flat_snoc (l : List Int) (n : Int) : flat (l ++ [n]) = flat l ++ numB n := by simp [flat]
theorem flat_part (l : List Int) (j : Nat) (h : j < l.length) : flat l = flat (l.take j) ++ (numB l[j] ++ flat (l.drop (j + 1))) := by
  have e := List.take_append_drop j l
  rw [List.drop_eq_getElem_cons h] at e
  conv => lhs; rw [← e]
  simp only [flat, List.map_append, List.map_cons, List.flatten_append, List.flatten_cons]
theorem nums_l1 (l : List Int) (hl : l.length ≤ 200) (hr : ∀ x ∈ l, 0 ≤ x ∧ x ≤ 2147483647) (m : Nat) : ∀ (j k : Nat), j + m = l.length → 60 ≤ k →
    chandlerylaw01_WireNumbers.l1 (k + m + 1) l (flat l) (8 * (j : Int)) (j : Int) = some true := by
  have hf := flat_length l
  induction m with
  | zero =>
    intro j k hj hk
    simp only [chandlerylaw01_WireNumbers.l1]
    rw [if_neg (by omega), at_f _ _ _ (flat_byt l) (by omega) (by omega), awake1 _ (by omega)]
    have e : atS (flat l) (8 * (j : Int)) = (0, 0, 7) := by unfold atS; rw [if_neg (by omega), if_pos (by omega)]
    rw [e]
    simp only [Option.bind_some, if_true]
    rw [if_pos (by omega)]
    rfl
  | succ m ih =>
    intro j k hj hk
    have hj' : j < l.length := by omega
    have hx := hr _ (List.getElem_mem hj')
    rw [show k + (m + 1) + 1 = (k + m + 1) + 1 by omega, chandlerylaw01_WireNumbers.l1, if_pos (by omega), at_f _ _ _ (flat_byt l) (by omega) (by omega)]
    have e : atS (flat l) (8 * (j : Int)) = (l[j], 8 * (j : Int) + 8, 0) := by
      have := atS_put (flat (l.take j)) (flat (l.drop (j + 1))) l[j] hx.1 hx.2
      rw [← flat_part l j hj', flat_length, List.length_take, Nat.min_eq_left (by omega), show ((8 * j : Nat) : Int) = 8 * (j : Int) by omega] at this
      exact this
    rw [e]
    simp only [Option.bind_some, if_true]
    rw [if_pos (by omega), rd_at l j hj', if_pos rfl, w64 (by omega) (by omega), if_pos rfl, w64 (by omega) (by omega)]
    have := ih (j + 1) k (by omega) hk
    rw [show 8 * ((j + 1 : Nat) : Int) = 8 * (j : Int) + 8 by omega, show ((j + 1 : Nat) : Int) = (j : Int) + 1 by omega] at this
    exact this
theorem nums_l0 (l : List Int) (hl : l.length ≤ 200) (m : Nat) : ∀ (j k : Nat), j + m = l.length → 300 ≤ k → (∀ x ∈ l.take j, 0 ≤ x ∧ x ≤ 2147483647) →
    chandlerylaw01_WireNumbers.l0 (k + m + 1) l (flat (l.take j)) (j : Int) = some true := by
  induction m with
  | zero =>
    intro j k hj hk hr
    simp only [chandlerylaw01_WireNumbers.l0]
    have ht : l.take j = l := List.take_of_length_le (by omega)
    rw [ht] at hr ⊢
    rw [if_neg (by omega)]
    have := nums_l1 l hl hr l.length 0 (k - l.length - 1) (by omega) (by omega)
    rw [show k - l.length - 1 + l.length + 1 = k by omega, show 8 * ((0 : Nat) : Int) = 0 from rfl, show ((0 : Nat) : Int) = 0 from rfl] at this
    exact this
  | succ m ih =>
    intro j k hj hk hr
    have hj' : j < l.length := by omega
    rw [show k + (m + 1) + 1 = (k + m + 1) + 1 by omega, chandlerylaw01_WireNumbers.l0, if_pos (by omega), if_pos (by omega), rd_at l j hj']
    have hfl := flat_length (l.take j)
    rw [List.length_take, Nat.min_eq_left (by omega)] at hfl
    by_cases hn : l[j] < 0 ∨ 2147483647 < l[j]
    · rw [put_no _ _ _ hn (by omega), awake1 _ (by omega)]
      simp only [Option.bind_some, if_true]
      rw [if_neg (by decide)]
      by_cases h0 : l[j] < 0
      · rw [if_pos h0]
        rfl
      · rw [if_neg h0, if_pos (by omega)]
        rfl
    · rw [put_ok _ _ _ (by omega) (by omega) (by omega) (by omega), Option.bind_some]
      rw [if_pos (by rfl)]
      have hts : l.take (j + 1) = l.take j ++ [l[j]] := by rw [List.take_succ_eq_append_getElem hj']
      rw [← flat_snoc, ← hts, w64 (by omega) (by omega)]
      have := ih (j + 1) k (by omega) hk (by
        rw [hts]
        intro x hx
        rcases List.mem_append.1 hx with h | h
        · exact hr x h
        · have : x = l[j] := by simpa using h
          subst this
          omega)
      rw [show ((j + 1 : Nat) : Int) = (j : Int) + 1 by omega] at this
      exact this
theorem WireNumbers : chandlerylaw01_WireNumbers.Pure := by
  intro l0 hm0 y0 hw0
  refine ⟨300 + l0.length + 1, ?_⟩
  unfold chandlerylaw01_WireNumbers.f
  by_cases h : (l0.length : Int) > 200
  · rw [if_pos h]
  · rw [if_neg h]
    have := nums_l0 l0 (by omega) l0.length 0 300 (by omega) (by omega) (by simp)
    rw [List.take_zero, show flat [] = [] from rfl, show ((0 : Nat) : Int) = 0 from rfl] at this
    exact this

end Go.Proofs.Ytffcegbcjkhnoaa.Pure
