/- The plain half of WireTells: for every input that the statement lets in, the printed function answers true, with no condition beyond the statement's own. -/
import Derived.Test.YtffcegbcjkhnoaaCTells
import Derived.Test.YtffcegbcjkhnoaaMWire3
namespace Go.Proofs.Ytffcegbcjkhnoaa.Pure
open Go.RowKit Go.Proofs.Ytffcegbcjkhnoaa.PC Go.Proofs.YtffcegbcjkhnoaaW.PrintWords Go.Proofs.YtffcegbcjkhnoaaW.PrintLast
set_option linter.unusedVariables false

theorem WireTells : chandlerylaw01_WireTells.Pure := by
  intro l0 a1 hm0 y0 hw0 w1
  have hb := Byt.of hw0
  refine ⟨l0.length + 60, ?_⟩
  unfold chandlerylaw01_WireTells.f
  by_cases hs : l0.length ≤ 3000
  · rw [small_f l0 hs, at_f _ l0 a1 hb (by omega) (by omega), textAt_f _ l0 a1 hb (by omega) (by omega) (by omega)]
    simp only [Option.bind_some, if_true]
    rw [awake1 _ (by omega)]
    simp only [Option.bind_some, if_true]
    by_cases h0 : a1 < 0
    · have e1 : atS l0 a1 = (0, 0, 1) := by unfold atS; rw [if_pos h0]
      have e2 : textS l0 a1 = ((⟨#[]⟩ : ByteArray), 0, 1) := by unfold textS; rw [e1]; rfl
      rw [if_pos h0, e1, e2]
      dsimp only
      rw [if_pos rfl, if_pos rfl, if_pos (by decide +kernel), empty_toList]
      rfl
    · rw [if_neg h0, rat_f _ l0 a1 (by omega) hb (by omega) (by omega), rtextAt_f _ l0 a1 (by omega) hb (by omega) (by omega)]
      simp
  · rw [small_not l0 hs]
    simp

end Go.Proofs.Ytffcegbcjkhnoaa.Pure
