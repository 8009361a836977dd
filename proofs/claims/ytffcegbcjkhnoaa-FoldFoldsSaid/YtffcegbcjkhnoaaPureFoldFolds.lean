/- The plain half of FoldFolds: the program's fold of any bytes is the reference's. -/
import Derived.Test.YtffcegbcjkhnoaaCFolds
import Derived.Test.YtffcegbcjkhnoaaMFold
namespace Go.Proofs.Ytffcegbcjkhnoaa.Pure
open Go.RowKit Go.Proofs.Ytffcegbcjkhnoaa.PC Go.Proofs.YtffcegbcjkhnoaaW.PrintWords Go.Proofs.YtffcegbcjkhnoaaW.PrintLast
set_option linter.unusedVariables false
theorem fold_out (fuel : Nat) (l : List Int) (a : Int) (h : a < 1 ∨ 64 < a) : fold_Fold.f (fuel + 1) l a = some ([], 1) := by
  by_cases h1 : a < 1
  · rw [fold_Fold.f, if_pos h1, fold_Fold.j0, if_pos rfl]
  · rw [fold_Fold.f, if_neg h1, show decide (a > 64) = true from decide_eq_true (by omega), fold_Fold.j0, if_pos rfl]
theorem FoldFolds : chandlerylaw04_FoldFolds.Pure := by
  intro l0 a1 h1 h2 hw hw1
  have hb := Byt.of hw
  obtain ⟨k, hk⟩ : ∃ k : Nat, 70000 ≤ k := ⟨70000, Nat.le_refl _⟩
  refine ⟨k + 1, ?_⟩
  unfold chandlerylaw04_FoldFolds.f
  by_cases hn : (l0.length : Int) > 1000
  · rw [if_pos hn]
  · rw [if_neg hn, Option.bind_some, if_pos (by simp only [List.length_nil]; omega), Option.bind_some, List.nil_append]
    by_cases ha : a1 < 1 ∨ 64 < a1
    · rw [fold_out k l0 a1 ha, Option.bind_some, if_pos rfl]
      have hj : chandlerylaw04_FoldFolds.j0 (k + 1) l0 a1 [] 1 true = some true := by
        rw [chandlerylaw04_FoldFolds.j0, if_pos rfl, chandlerylaw04_awake.f, Option.bind_some, if_pos rfl, if_pos rfl]
        rfl
      by_cases h3 : a1 < 1
      · rw [if_pos h3]
        exact hj
      · rw [if_neg h3, show decide (a1 > 64) = true from decide_eq_true (by omega)]
        exact hj
    · obtain ⟨s, rfl⟩ := Int.eq_ofNat_of_zero_le (show 0 ≤ a1 by omega)
      have hm : s * (l0.length + 3) ≤ 64 * 1003 := Nat.mul_le_mul (by omega) (by omega)
      rw [fold_f l0 hb (by omega) s (k + 1) (by omega) (by omega) (by omega), Option.bind_some, if_pos rfl, if_neg (by omega), show decide ((s : Int) > 64) = false from decide_eq_false (by omega),
        chandlerylaw04_FoldFolds.j0, if_neg (by decide), chandlerylaw04_awake.f, Option.bind_some, if_pos rfl, if_pos rfl, ref_f l0 hb (by omega) s k (by omega) (by omega), Option.bind_some]
      simp
end Go.Proofs.Ytffcegbcjkhnoaa.Pure
