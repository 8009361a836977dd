/- The plain half of WireAgain: for every input that the statement lets in, the printed function answers true, with no condition beyond the statement's own. -/
import Derived.Test.YtffcegbcjkhnoaaCAgain
import Derived.Test.YtffcegbcjkhnoaaMWire3
namespace Go.Proofs.Ytffcegbcjkhnoaa.Pure
open Go.RowKit Go.Proofs.Ytffcegbcjkhnoaa.PC Go.Proofs.YtffcegbcjkhnoaaW.PrintWords Go.Proofs.YtffcegbcjkhnoaaW.PrintLast
set_option linter.unusedVariables false

theorem again_j0 (k : Nat) (l0 : List Int) (a1 : Int) (hb : Byt l0) (hs : l0.length ≤ 3000) (hk : l0.length + 60 ≤ k) : chandlerylaw01_WireAgain.j0 (k + 1) l0 a1 = some true := by
  rw [chandlerylaw01_WireAgain.j0, textAt_f _ l0 a1 hb (by omega) (by omega) (by omega)]
  simp only [Option.bind_some]
  rw [awake1 k (by omega)]
  simp only [Option.bind_some, if_true]
  by_cases he : (textS l0 a1).2.2 = 0
  · obtain ⟨h0, h1, h2, h3, h4⟩ := textS_ok hb he
    rw [if_pos he, if_pos (by omega), if_pos h2, putText_f k [] _ (by simp) h3 (by omega)]
    simp only [Option.bind_some]
    rw [if_pos h0, if_pos (by omega), List.nil_append, h4]
    simp
  · obtain ⟨h1, h2⟩ := textS_no he
    rw [if_neg he, h1, h2, if_pos empty_toList]
    rfl
theorem WireAgain : chandlerylaw01_WireAgain.Pure := by
  intro l0 a1 hm0 y0 hw0 w1
  have hb := Byt.of hw0
  refine ⟨l0.length + 70 + 1, ?_⟩
  unfold chandlerylaw01_WireAgain.f
  by_cases hs : l0.length ≤ 3000
  · rw [small_f l0 hs, at_f _ l0 a1 hb (by omega) (by omega), again_j0 _ l0 a1 hb hs (by omega)]
    simp only [Option.bind_some, if_true]
    by_cases he : (atS l0 a1).2.2 = 0
    · obtain ⟨h0, h1, hv, ha, n0, n1⟩ := atS_ok hb he
      rw [if_pos he, put_ok _ [] _ n0 n1 (by simp) (by omega)]
      simp only [Option.bind_some, if_true]
      rw [ha, w64 (by omega) (by omega), if_pos rfl, if_neg (by omega), if_pos h0, if_pos (by omega), if_pos (by omega)]
      obtain ⟨i, rfl⟩ := Int.eq_ofNat_of_zero_le h0
      rw [show ((i : Int) + 8).toNat = i + 8 by omega, Int.toNat_natCast, List.drop_take, show i + 8 - i = 8 by omega, hv, Int.toNat_natCast, List.nil_append, numB_numV _ ((hb.drop _).take _) (by simp; omega), if_pos rfl]
    · rw [if_neg he]
  · rw [small_not l0 hs]
    simp

end Go.Proofs.Ytffcegbcjkhnoaa.Pure
