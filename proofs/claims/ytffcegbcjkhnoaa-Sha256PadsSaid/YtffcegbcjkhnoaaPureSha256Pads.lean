/- The plain half of Sha256Pads: the two ways to fill give the same bytes, and together with the number they fill whole blocks. -/
import Derived.Test.YtffcegbcjkhnoaaCPads
namespace Go.Proofs.Ytffcegbcjkhnoaa.Pure
open Go.RowKit Go.Proofs.Ytffcegbcjkhnoaa.PC Go.Proofs.YtffcegbcjkhnoaaW.PrintWords Go.Proofs.YtffcegbcjkhnoaaW.PrintLast
set_option linter.unusedVariables false
theorem padS_length (n : Int) : ((padS n).length : Int) = 72 - (n + 8) % 64 := by
  simp [padS]
  omega
theorem Sha256Pads : chandlerylaw03_Sha256Pads.Pure := by
  intro a0 hw
  refine ⟨1, ?_⟩
  unfold chandlerylaw03_Sha256Pads.f
  by_cases h0 : a0 < 0
  · rw [sha256_Pad.f, if_pos (Or.inl h0), Option.bind_some, if_pos h0]
    rfl
  · by_cases h1 : 1000000000 < a0
    · rw [sha256_Pad.f, if_pos (Or.inr h1), Option.bind_some, if_neg h0, show decide (a0 > 1000000000) = true from decide_eq_true h1]
      rfl
    · rw [sha256_Pad.f, if_neg (by omega), Option.bind_some, if_neg h0, show decide (a0 > 1000000000) = false from decide_eq_false h1]
      rw [chandlerylaw03_Sha256Pads.j0, if_neg (by decide), chandlerylaw03_awake.f, Option.bind_some, if_pos rfl, if_pos rfl, chandleryref03_Pad.f, if_pos (by omega), Option.bind_some, if_pos rfl]
      have hl := padS_length a0
      rw [hl, w64 (by omega) (by omega), Int.tmod_eq_emod_of_nonneg (by omega)]
      congr 1
      rw [beq_iff_eq]
      omega
end Go.Proofs.Ytffcegbcjkhnoaa.Pure
