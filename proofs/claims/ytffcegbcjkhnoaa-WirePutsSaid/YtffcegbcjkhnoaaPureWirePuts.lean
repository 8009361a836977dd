/- The plain half of WirePuts: for every input that the statement lets in, the printed function answers true, with no condition beyond the statement's own. -/
import Derived.Test.YtffcegbcjkhnoaaCPuts
import Derived.Test.YtffcegbcjkhnoaaMWire3
namespace Go.Proofs.Ytffcegbcjkhnoaa.Pure
open Go.RowKit Go.Proofs.Ytffcegbcjkhnoaa.PC Go.Proofs.YtffcegbcjkhnoaaW.PrintWords Go.Proofs.YtffcegbcjkhnoaaW.PrintLast
set_option linter.unusedVariables false

theorem WirePuts : chandlerylaw01_WirePuts.Pure := by
  intro l0 a1 hm0 y0 hw0 w1
  refine ⟨60, ?_⟩
  have hb := Byt.of hw0
  unfold chandlerylaw01_WirePuts.f
  by_cases hs : l0.length ≤ 3000
  · rw [small_f l0 hs]
    simp only [Option.bind_some, if_true, List.length_nil, List.nil_append]
    rw [if_pos (by omega), if_pos (by omega), if_pos (by omega), Int.toNat_natCast, List.take_length]
    have hj : (if a1 < 0 then chandlerylaw01_WirePuts.j0 60 l0 a1 [] 1 true else chandlerylaw01_WirePuts.j0 60 l0 a1 [] 1 true) = some true := by
      rw [ite_self, chandlerylaw01_WirePuts.j0, if_pos rfl, awake1 59 (by omega)]
      rfl
    by_cases hn : a1 < 0 ∨ 2147483647 < a1
    · rw [put_no 60 l0 a1 hn (by omega)]
      simp only [Option.bind_some, if_true]
      by_cases h0 : a1 < 0
      · rw [if_pos h0] at hj ⊢
        exact hj
      · rw [if_neg h0] at hj ⊢
        rw [show decide (a1 > 2147483647) = true from decide_eq_true (by omega)]
        exact hj
    · rw [put_ok 60 l0 a1 (by omega) (by omega) (by omega) (by omega)]
      simp only [Option.bind_some, if_true]
      rw [if_neg (by omega), show decide (a1 > 2147483647) = false from decide_eq_false (by omega), chandlerylaw01_WirePuts.j0, if_neg (by decide), awake1 59 (by omega)]
      simp only [Option.bind_some, if_true]
      rw [number_f 59 a1 (by omega) (by omega) (by omega)]
      simp only [Option.bind_some]
      rw [both_f l0 (numB a1) (by rw [numB_length]; omega)]
      simp
  · rw [small_not l0 hs]
    simp

end Go.Proofs.Ytffcegbcjkhnoaa.Pure
