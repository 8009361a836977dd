/- The plain half of FoldBoth: the fold of two rows, the first of whole turns, is what both folds are unlike in. -/
import Derived.Test.YtffcegbcjkhnoaaCBoth
import Derived.Test.YtffcegbcjkhnoaaMFold
namespace Go.Proofs.Ytffcegbcjkhnoaa.Pure
open Go.RowKit Go.Proofs.Ytffcegbcjkhnoaa.PC Go.Proofs.YtffcegbcjkhnoaaW.PrintWords Go.Proofs.YtffcegbcjkhnoaaW.PrintLast
set_option linter.unusedVariables false
theorem bn_left (a b : List Int) (i : Nat) (h : i < a.length) : bn (a ++ b) i = bn a i := by
  unfold bn rd
  rw [Int.toNat_natCast, List.getD_eq_getElem?_getD, List.getD_eq_getElem?_getD, List.getElem?_append_left h]
theorem bn_right (a b : List Int) (i : Nat) : bn (a ++ b) (a.length + i) = bn b i := by
  unfold bn rd
  rw [Int.toNat_natCast, Int.toNat_natCast, List.getD_eq_getElem?_getD, List.getD_eq_getElem?_getD, List.getElem?_append_right (by omega), Nat.add_sub_cancel_left]
theorem col_both (a b : List Int) (s k q : Nat) (h : a.length = q * s) : col (a ++ b) s k = col a s k ^^^ col b s k := by
  unfold col
  rw [List.length_append, xs_add]
  congr 1
  · exact xs_congr _ fun i hi => by unfold gc; rw [bn_left a b i hi]
  · refine xs_congr _ fun i hi => ?_
    show gc (a ++ b) s k (a.length + i) = gc b s k i
    unfold gc
    rw [bn_right, h, Nat.add_comm (q * s), Nat.add_mul_mod_self_right]
theorem fold_two (x y : Nat) (hx : x < 256) (hy : y < 256) (fuel : Nat) (hf : 10 ≤ fuel) : fold_Fold.f fuel [(x : Int), (y : Int)] 1 = some ([((x ^^^ y : Nat) : Int)], 0) := by
  have hb : Byt [(x : Int), (y : Int)] := by
    intro z hz
    simp only [List.mem_cons, List.not_mem_nil, or_false] at hz
    rcases hz with rfl | rfl <;> omega
  have h := fold_f [(x : Int), (y : Int)] hb (by simp) 1 fuel (by omega) (by omega) (by simp only [List.length_cons, List.length_nil]; omega)
  rw [show ((1 : Nat) : Int) = 1 from rfl] at h
  rw [h]
  have hc : col [(x : Int), (y : Int)] 1 0 = x ^^^ y := by
    simp [col, xs, gc, bn, rd, Nat.mod_one]
  rw [foldS, show List.range 1 = [0] from rfl, List.map_cons, hc]
  rfl
theorem both_l0 (x y z : List Int) (s : Nat) (hs : s ≤ 64) (hx : x.length = s) (hy : y.length = s) (hz : z.length = s)
    (hp : ∀ i, i < s → ∃ p q : Nat, p < 256 ∧ q < 256 ∧ rd x (i : Int) = (p : Int) ∧ rd y (i : Int) = (q : Int) ∧ rd z (i : Int) = ((p ^^^ q : Nat) : Int)) (m : Nat) : ∀ (i fuel : Nat), i + m = s → 20 + m ≤ fuel →
    chandlerylaw04_FoldBoth.l0 fuel s x y z i = some true := by
  induction m with
  | zero =>
    intro i fuel hi hf
    obtain ⟨f, rfl⟩ : ∃ f, fuel = f + 1 := ⟨fuel - 1, by omega⟩
    rw [chandlerylaw04_FoldBoth.l0, if_neg (by omega)]
    rfl
  | succ m ih =>
    intro i fuel hi hf
    obtain ⟨f, rfl⟩ : ∃ f, fuel = f + 1 := ⟨fuel - 1, by omega⟩
    obtain ⟨p, q, hp1, hq1, e1, e2, e3⟩ := hp i (by omega)
    rw [chandlerylaw04_FoldBoth.l0, if_pos (by omega), if_pos (by omega), if_pos (by omega), if_pos (by omega), e1, e2, fold_two p q hp1 hq1 f (by omega), Option.bind_some, if_pos rfl, if_pos (by rfl), if_pos (by show (0 : Int) < 1; decide), if_pos (by omega), e3, if_pos (by rfl), w64n (by omega) (by omega)]
    exact ih (i + 1) f (by omega) (by omega)
theorem FoldBoth : chandlerylaw04_FoldBoth.Pure := by
  intro l0 l1 a2 h1 h2 hw h3 h4 hw1 hwa
  have hb0 := Byt.of hw
  have hb1 := Byt.of hw1
  obtain ⟨k, hk⟩ : ∃ k : Nat, 2000 ≤ k := ⟨2000, Nat.le_refl _⟩
  refine ⟨k + 2, ?_⟩
  have hout : chandlerylaw04_FoldBoth.j0 (k + 2) l0 l1 a2 true = some true := by
    rw [chandlerylaw04_FoldBoth.j0, if_pos rfl]
  unfold chandlerylaw04_FoldBoth.f
  by_cases c1 : (l0.length : Int) > 500
  · rw [if_pos c1]
    exact hout
  by_cases c2 : (l1.length : Int) > 500
  · rw [if_neg c1, if_pos c2]
    exact hout
  by_cases c3 : a2 < 1
  · rw [if_neg c1, if_neg c2, if_pos c3]
    exact hout
  by_cases c4 : 64 < a2
  · rw [if_neg c1, if_neg c2, if_neg c3, show decide (a2 > 64) = true from decide_eq_true c4]
    exact hout
  obtain ⟨s, rfl⟩ := Int.eq_ofNat_of_zero_le (show 0 ≤ a2 by omega)
  have hdiv : (l0.length : Int) / (s : Int) = ((l0.length / s : Nat) : Int) := rfl
  have hq : l0.length / s * s ≤ l0.length := Nat.div_mul_le_self _ _
  have hq2 : l0.length / s ≤ l0.length := Nat.div_le_self _ _
  generalize hqq : l0.length / s = q at *
  have e1 : wrap64 ((l0.length : Int) / (s : Int)) = (q : Int) := by rw [hdiv, w64n (by omega) (by omega)]
  have e2 : wrap64 ((q : Int) * (s : Int)) = ((q * s : Nat) : Int) := by rw [← Int.natCast_mul, w64n (by omega) (by omega)]
  have hl : (l0.take (q * s)).length = q * s := by rw [List.length_take]; omega
  have hbt : Byt (l0.take (q * s)) := fun x hx => hb0 x (List.mem_of_mem_take hx)
  have hba : Byt (l0.take (q * s) ++ l1) := fun x hx => (List.mem_append.1 hx).elim (hbt x) (hb1 x)
  have hboth : chandleryref01_Both.f (l0.take (q * s)) l1 = some (l0.take (q * s) ++ l1) := by
    rw [chandleryref01_Both.f, if_pos (by simp only [List.length_nil]; omega), Option.bind_some, List.nil_append, if_pos (by omega)]
  rw [if_neg c1, if_neg c2, if_neg c3, show decide ((s : Int) > 64) = false from decide_eq_false c4, chandlerylaw04_FoldBoth.j0, if_neg (by decide), if_neg (by omega), e1, e2, if_pos (by omega), if_pos (by omega), Int.toNat_natCast,
    fold_f _ hbt (by omega) s (k + 1) (by omega) (by omega) (by omega), Option.bind_some, fold_f _ hb1 (by omega) s (k + 1) (by omega) (by omega) (by omega), Option.bind_some, hboth, Option.bind_some,
    fold_f _ hba (by rw [List.length_append]; omega) s (k + 1) (by omega) (by omega) (by rw [List.length_append]; omega), Option.bind_some, if_pos rfl, if_pos rfl, if_pos rfl]
  simp only [foldS_length]
  rw [if_pos trivial, if_pos trivial, show ((s : Int) != (s : Int)) = false by simp, chandlerylaw04_FoldBoth.j1, if_neg (by decide)]
  refine both_l0 _ _ _ s (by omega) (foldS_length _ _) (foldS_length _ _) (foldS_length _ _) (fun i hi => ?_) s 0 k (by omega) (by omega)
  refine ⟨col (l0.take (q * s)) s i, col l1 s i, col_lt hbt s i, col_lt hb1 s i, foldS_rd _ s i hi, foldS_rd _ s i hi, ?_⟩
  rw [foldS_rd _ s i hi, col_both _ _ s i q hl]
end Go.Proofs.Ytffcegbcjkhnoaa.Pure
