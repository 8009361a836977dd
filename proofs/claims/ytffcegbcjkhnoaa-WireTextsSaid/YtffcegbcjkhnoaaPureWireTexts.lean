/- The plain half of WireTexts: for every input that the statement lets in, the printed function answers true, with no condition beyond the statement's own. -/
import Derived.Test.YtffcegbcjkhnoaaCTexts
import Derived.Test.YtffcegbcjkhnoaaMWire3
namespace Go.Proofs.Ytffcegbcjkhnoaa.Pure
open Go.RowKit Go.Proofs.Ytffcegbcjkhnoaa.PC Go.Proofs.YtffcegbcjkhnoaaW.PrintWords Go.Proofs.YtffcegbcjkhnoaaW.PrintLast
set_option linter.unusedVariables false

theorem texts_j0 (k : Nat) (l0 l2 : List Int) (s : ByteArray) (hb : Byt l0) (hb2 : Byt l2) (h0 : l0.length ≤ 3000) (h2 : l2.length ≤ 3000) (hs : s.size ≤ 3000) (hk : 20000 ≤ k) : chandlerylaw01_WireTexts.j0 (k + 1) l0 s l2 false = some true := by
  have hp := padI_bd s.size
  have hl := textB_length s
  rw [chandlerylaw01_WireTexts.j0, if_neg (by decide), putText_f k l0 s (by omega) (by omega) (by omega)]
  simp only [Option.bind_some]
  unfold chandleryref01_Text.f
  rw [if_pos (by omega)]
  simp only [Option.bind_some]
  rw [both_f l0 (textB s) (by omega)]
  simp only [Option.bind_some, if_true]
  rw [both_f (l0 ++ textB s) l2 (by simp; omega)]
  simp only [Option.bind_some]
  rw [textAt_f k _ _ ((hb.app (textB_byt s)).app hb2) (by simp; omega) (by omega) (by simp; omega), awake1 k (by omega), List.append_assoc, textS_put l0 l2 s (by omega)]
  simp only [Option.bind_some, if_true]
  rw [if_pos (by simp), List.length_append, w64 (by omega) (by omega), Int.tmod_eq_emod_of_nonneg (by omega), show (((l0.length + (textB s).length : Nat) : Int) - (l0.length : Int)) % 8 = 0 by unfold padI at hl; omega]
  rfl
theorem WireTexts : chandlerylaw01_WireTexts.Pure := by
  intro l0 a1 l2 hm0 y0 hw0 w1 hm2 y2 hw2
  have hb := Byt.of hw0
  have hb2 := Byt.of hw2
  refine ⟨20001, ?_⟩
  have ht : chandlerylaw01_WireTexts.j0 20001 l0 a1 l2 true = some true := by rw [chandlerylaw01_WireTexts.j0, if_pos rfl]
  unfold chandlerylaw01_WireTexts.f
  by_cases h0 : l0.length ≤ 3000
  · rw [small_f l0 h0]
    simp only [Option.bind_some, if_true]
    by_cases h2 : l2.length ≤ 3000
    · rw [small_f l2 h2]
      simp only [Option.bind_some, if_true]
      by_cases hs : a1.size ≤ 3000
      · rw [show decide ((a1.size : Int) > 3000) = false from decide_eq_false (by omega)]
        exact texts_j0 20000 l0 l2 a1 hb hb2 h0 h2 hs (by omega)
      · rw [show decide ((a1.size : Int) > 3000) = true from decide_eq_true (by omega)]
        exact ht
    · rw [small_not l2 h2]
      simp only [Option.bind_some]
      exact ht
  · rw [small_not l0 h0]
    simp only [Option.bind_some]
    exact ht

end Go.Proofs.Ytffcegbcjkhnoaa.Pure
