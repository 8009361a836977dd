/- The plain half of FoldLinear: the fold of what two rows are unlike in is what their folds are unlike in; a fold to as many bytes or more is the row itself. -/
import Derived.Test.YtffcegbcjkhnoaaCLin
import Derived.Test.YtffcegbcjkhnoaaMFold
namespace Go.Proofs.Ytffcegbcjkhnoaa.Pure
open Go.RowKit Go.Proofs.Ytffcegbcjkhnoaa.PC Go.Proofs.YtffcegbcjkhnoaaW.PrintWords Go.Proofs.YtffcegbcjkhnoaaW.PrintLast
set_option linter.unusedVariables false
def cS (a b : List Int) (i : Nat) : List Int := (List.range i).map fun j => ((bn a j ^^^ bn b j : Nat) : Int)
theorem cS_length (a b : List Int) (i : Nat) : (cS a b i).length = i := by simp [cS]
theorem cS_succ (a b : List Int) (i : Nat) : cS a b i ++ [((bn a i ^^^ bn b i : Nat) : Int)] = cS a b (i + 1) := by
  rw [cS, cS, List.range_succ, List.map_append]
  rfl
theorem cS_byt {a b : List Int} (ha : Byt a) (hb : Byt b) (i : Nat) : Byt (cS a b i) := by
  intro x hx
  obtain ⟨j, _, rfl⟩ := List.mem_map.1 hx
  have := Nat.xor_lt_two_pow (n := 8) (bn_rd ha j).2 (bn_rd hb j).2
  omega
theorem bn_cS (a b : List Int) (i j : Nat) (h : j < i) : bn (cS a b i) j = bn a j ^^^ bn b j := by
  simp [bn, rd, cS, List.getD_eq_getElem?_getD, h]
theorem col_cS (a b : List Int) (s k : Nat) (h : a.length = b.length) : col (cS a b a.length) s k = col a s k ^^^ col b s k := by
  unfold col
  rw [cS_length, ← h, ← xs_xor]
  refine xs_congr _ fun i hi => ?_
  unfold gc
  split
  · rw [bn_cS a b _ i hi]
  · rfl
theorem col_self (a : List Int) (s i : Nat) (hs : a.length ≤ s) (hi : i < a.length) : col a s i = bn a i := by
  have h1 := xs_first a s i (by omega)
  have h2 := xs_zero (g := gc a s i) (a.length - (i + 1)) (i + 1) (fun j h3 h4 => by
    unfold gc
    rw [if_neg]
    rw [Nat.mod_eq_of_lt (by omega)]
    omega)
  rw [show i + 1 + (a.length - (i + 1)) = a.length by omega] at h2
  unfold col
  rw [h2, xs, h1, gc, if_pos (Nat.mod_eq_of_lt (by omega)), Nat.zero_xor]
theorem foldS_self (a : List Int) (ha : Byt a) (s : Nat) (hs : a.length ≤ s) : (foldS a s).take a.length = a := by
  apply List.ext_getElem
  · rw [List.length_take, foldS_length]
    omega
  · intro i h1 h2
    rw [List.getElem_take]
    simp only [foldS, List.getElem_map, List.getElem_range]
    rw [col_self a s i hs h2, ← (bn_rd ha i).1, rd, Int.toNat_natCast, List.getD_eq_getElem?_getD, List.getElem?_eq_getElem h2]
    rfl
theorem lin_l1 (a x y z : List Int) (ha : Byt a) (hal : a.length ≤ 300) (s : Nat) (hs : s ≤ 64) (hx : x = foldS a s) (hy : y.length = s) (hz : z.length = s)
    (hp : ∀ i, i < s → ∃ p q : Nat, p < 256 ∧ q < 256 ∧ rd x (i : Int) = (p : Int) ∧ rd y (i : Int) = (q : Int) ∧ rd z (i : Int) = ((p ^^^ q : Nat) : Int)) (m : Nat) : ∀ (i fuel : Nat), i + m = s → 100 + m ≤ fuel →
    chandlerylaw04_FoldLinear.l1 fuel a s x y z i = some true := by
  have hxl : x.length = s := by rw [hx]; exact foldS_length _ _
  induction m with
  | zero =>
    intro i fuel hi hf
    obtain ⟨f, rfl⟩ : ∃ f, fuel = f + 1 := ⟨fuel - 1, by omega⟩
    rw [chandlerylaw04_FoldLinear.l1, if_neg (by omega), chandlerylaw04_awake.f, Option.bind_some, if_pos rfl]
    by_cases h : (s : Int) < (a.length : Int)
    · rw [if_pos h]
    · rw [if_neg h, if_pos (by omega), if_pos (by omega), Int.toNat_natCast, hx, foldS_self a ha s (by omega)]
      simp
  | succ m ih =>
    intro i fuel hi hf
    obtain ⟨f, rfl⟩ : ∃ f, fuel = f + 1 := ⟨fuel - 1, by omega⟩
    obtain ⟨p, q, hp1, hq1, e1, e2, e3⟩ := hp i (by omega)
    have hlt := Nat.xor_lt_two_pow (n := 8) hp1 hq1
    rw [chandlerylaw04_FoldLinear.l1, if_pos (by omega), if_pos (by omega), if_pos (by omega), if_pos (by omega), if_pos (by omega), e1, e2, e3, w64n (n := (p : Int)) (by omega) (by omega), w64n (n := (q : Int)) (by omega) (by omega),
      xor4_f p q f (by omega) (by omega) (by omega), Option.bind_some, w64n (n := ((p ^^^ q : Nat) : Int)) (by omega) (by omega), if_pos rfl, w64n (by omega) (by omega)]
    exact ih (i + 1) f (by omega) (by omega)
theorem lin_l0 (a b : List Int) (ha : Byt a) (hb : Byt b) (hl : a.length = b.length) (hal : a.length ≤ 300) (s : Nat) (hs0 : 0 < s) (hs : s ≤ 64) (m : Nat) : ∀ (i fuel : Nat), i + m = a.length → 1000 + m ≤ fuel →
    chandlerylaw04_FoldLinear.l0 fuel a b s (cS a b i) i = some true := by
  induction m with
  | zero =>
    intro i fuel hi hf
    obtain ⟨f, rfl⟩ : ∃ f, fuel = f + 2 := ⟨fuel - 2, by omega⟩
    obtain rfl : i = a.length := by omega
    rw [chandlerylaw04_FoldLinear.l0, if_neg (by omega), fold_f a ha (by omega) s (f + 1) hs0 hs (by omega), Option.bind_some, fold_f b hb (by omega) s (f + 1) hs0 hs (by omega), Option.bind_some,
      fold_f _ (cS_byt ha hb _) (by rw [cS_length]; omega) s (f + 1) hs0 hs (by rw [cS_length]; omega), Option.bind_some, if_pos rfl, if_pos rfl, if_pos rfl]
    simp only [foldS_length]
    rw [if_pos trivial, if_pos trivial, show ((s : Int) != (s : Int)) = false by simp, chandlerylaw04_FoldLinear.j2, if_neg (by decide)]
    refine lin_l1 a _ _ _ ha hal s hs rfl (foldS_length _ _) (foldS_length _ _) (fun i hi => ?_) s 0 f (by omega) (by omega)
    refine ⟨col a s i, col b s i, col_lt ha s i, col_lt hb s i, foldS_rd _ s i hi, foldS_rd _ s i hi, ?_⟩
    rw [foldS_rd _ s i hi, col_cS a b s i hl]
  | succ m ih =>
    intro i fuel hi hf
    obtain ⟨f, rfl⟩ : ∃ f, fuel = f + 1 := ⟨fuel - 1, by omega⟩
    obtain ⟨e1, h1⟩ := bn_rd ha i
    obtain ⟨e2, h2⟩ := bn_rd hb i
    have hlt := Nat.xor_lt_two_pow (n := 8) h1 h2
    rw [chandlerylaw04_FoldLinear.l0, if_pos (by omega), if_pos (by omega), if_pos (by omega), e1, e2, w64n (n := (bn a i : Int)) (by omega) (by omega), w64n (n := (bn b i : Int)) (by omega) (by omega),
      xor4_f _ _ f (by omega) (by omega) (by omega), Option.bind_some, if_pos (by rw [cS_length]; omega), show ((bn a i ^^^ bn b i : Nat) : Int) % 256 = ((bn a i ^^^ bn b i : Nat) : Int) by omega, cS_succ, w64n (by omega) (by omega)]
    exact ih (i + 1) f (by omega) (by omega)
theorem FoldLinear : chandlerylaw04_FoldLinear.Pure := by
  intro l0 l1 a2 h1 h2 hw h3 h4 hw1 hwa
  have hb0 := Byt.of hw
  have hb1 := Byt.of hw1
  obtain ⟨k, hk⟩ : ∃ k : Nat, 2000 ≤ k := ⟨2000, Nat.le_refl _⟩
  refine ⟨k + 1, ?_⟩
  have hout : chandlerylaw04_FoldLinear.j0 (k + 1) l0 l1 a2 true = some true := by
    rw [chandlerylaw04_FoldLinear.j0, if_pos rfl]
  unfold chandlerylaw04_FoldLinear.f
  by_cases c1 : (l0.length : Int) > 300
  · rw [if_pos c1]
    exact hout
  by_cases c2 : (l0.length : Int) = (l1.length : Int)
  · by_cases c3 : a2 < 1
    · rw [if_neg c1, if_pos c2, if_pos c3]
      exact hout
    by_cases c4 : 64 < a2
    · rw [if_neg c1, if_pos c2, if_neg c3, show decide (a2 > 64) = true from decide_eq_true c4]
      exact hout
    obtain ⟨s, rfl⟩ := Int.eq_ofNat_of_zero_le (show 0 ≤ a2 by omega)
    rw [if_neg c1, if_pos c2, if_neg c3, show decide ((s : Int) > 64) = false from decide_eq_false c4, chandlerylaw04_FoldLinear.j0, if_neg (by decide)]
    exact lin_l0 l0 l1 hb0 hb1 (by omega) (by omega) s (by omega) (by omega) l0.length 0 k (by omega) (by omega)
  · rw [if_neg c1, if_neg c2]
    exact hout
end Go.Proofs.Ytffcegbcjkhnoaa.Pure
