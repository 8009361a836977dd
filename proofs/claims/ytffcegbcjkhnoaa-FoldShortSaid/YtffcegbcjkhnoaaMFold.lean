/- Plain facts: what fold.Fold and the reference's Fold and Xor compute. -/
import Derived.Test.YtffcegbcjkhnoaaCFold
import Derived.Test.YtffcegbcjkhnoaaCXor
import Derived.Test.YtffcegbcjkhnoaaMBits
import Derived.Test.YtffcegbcjkhnoaaMWire
namespace Go.Proofs.Ytffcegbcjkhnoaa.Pure
open Go.RowKit Go.Proofs.Ytffcegbcjkhnoaa.PC Go.Proofs.YtffcegbcjkhnoaaW.PrintWords Go.Proofs.YtffcegbcjkhnoaaW.PrintLast
set_option linter.unusedVariables false
theorem pow_bound_le {p m : Nat} (h : p * 2 ^ m ≤ 4294967296) : p ≤ 4294967296 := by
  have := Nat.le_mul_of_pos_right p (Nat.two_pow_pos m)
  omega
theorem pow_next_le {p m : Nat} (h : p * 2 ^ (m + 1) ≤ 4294967296) : 2 * p * 2 ^ m ≤ 4294967296 := by
  rw [Nat.pow_succ, Nat.mul_comm (2 ^ m), ← Nat.mul_assoc, Nat.mul_comm p 2] at h
  exact h
theorem xor_digit (a b : Nat) : a ^^^ b = (a % 2 + b % 2) % 2 + 2 * ((a / 2) ^^^ (b / 2)) := by
  rw [two (a ^^^ b), Nat.xor_div_two, xor2]
theorem xor4_l0 (m : Nat) : ∀ (a b out p fuel : Nat), a < 2 ^ m → b < 2 ^ m → out < p → p * 2 ^ m ≤ 4294967296 → 2 * m + 2 ≤ fuel →
    chandleryref04_Xor.l0 fuel a b out p = some ((out + p * (a ^^^ b) : Nat) : Int) := by
  have hz : ∀ (out p fuel : Nat), 2 ≤ fuel → chandleryref04_Xor.l0 fuel (0 : Nat) (0 : Nat) out p = some ((out + p * (0 ^^^ 0) : Nat) : Int) := by
    intro out p fuel hf
    obtain ⟨f, rfl⟩ : ∃ f, fuel = f + 2 := ⟨fuel - 2, by omega⟩
    rw [chandleryref04_Xor.l0, if_neg (by decide), show decide (((0 : Nat) : Int) > 0) = false from rfl, chandleryref04_Xor.j1, if_neg (by decide)]
    rfl
  induction m with
  | zero =>
    intro a b out p fuel ha hb ho hp hf
    obtain rfl : a = 0 := by simpa using ha
    obtain rfl : b = 0 := by simpa using hb
    exact hz out p fuel (by omega)
  | succ m ih =>
    intro a b out p fuel ha hb ho hp hf
    by_cases hab : a = 0 ∧ b = 0
    · obtain ⟨rfl, rfl⟩ := hab
      exact hz out p fuel (by omega)
    · obtain ⟨f, rfl⟩ : ∃ f, fuel = f + 2 := ⟨fuel - 2, by omega⟩
      have hpl := pow_bound_le hp
      have ha2 : a < 4294967296 := by
        have := Nat.le_mul_of_pos_left (2 ^ (m + 1)) (show 0 < p by omega)
        omega
      have hb2 : b < 4294967296 := by
        have := Nat.le_mul_of_pos_left (2 ^ (m + 1)) (show 0 < p by omega)
        omega
      have hj : chandleryref04_Xor.l0 (f + 2) a b out p = chandleryref04_Xor.j1 (f + 1) a b out p true := by
        rw [chandleryref04_Xor.l0]
        by_cases h1 : (a : Int) > 0
        · rw [if_pos h1]
        · rw [if_neg h1, decide_eq_true (show (b : Int) > 0 by omega)]
      rw [hj, chandleryref04_Xor.j1, if_pos rfl, half a ha2, half b hb2, tm2, tm2, show wrap64 (2 * (p : Int)) = ((2 * p : Nat) : Int) by rw [w64n (by omega) (by omega)]; omega]
      have hx := xor_digit a b
      by_cases h1 : a % 2 = b % 2
      · rw [if_pos (by omega), ih (a / 2) (b / 2) out (2 * p) f (by omega) (by omega) (by omega) (pow_next_le hp) (by omega), hx, show (a % 2 + b % 2) % 2 = 0 by omega, ← step_out]
        rfl
      · rw [if_neg (by omega), show wrap64 ((out : Int) + (p : Int)) = ((out + p : Nat) : Int) by rw [w64n (by omega) (by omega)]; omega,
          ih (a / 2) (b / 2) (out + p) (2 * p) f (by omega) (by omega) (by omega) (pow_next_le hp) (by omega), hx, show (a % 2 + b % 2) % 2 = 1 by omega, ← step_out, Nat.mul_one]
theorem xor4_f (a b fuel : Nat) (ha : a < 4294967296) (hb : b < 4294967296) (hf : 66 ≤ fuel) : chandleryref04_Xor.f fuel a b = some ((a ^^^ b : Nat) : Int) := by
  have h := xor4_l0 32 a b 0 1 fuel ha hb (by omega) (by omega) (by omega)
  rw [Nat.zero_add, Nat.one_mul] at h
  exact h
theorem ofInt8 (a : Nat) (ha : a < 256) : (BitVec.ofInt 8 (a : Int)).toNat = a := by
  rw [BitVec.ofInt_natCast, BitVec.toNat_ofNat]
  exact Nat.mod_eq_of_lt (by omega)
theorem wrap_u8 (a : Int) : IntKind.u8.wrap a = a % 256 := by simp [IntKind.wrap, IntKind.bits, IntKind.signed]
theorem xor8 (a b : Nat) (ha : a < 256) (hb : b < 256) : Go.bits .xor .u8 (a : Int) (b : Int) = ((a ^^^ b : Nat) : Int) := by
  have hx : a ^^^ b < 2 ^ 8 := Nat.xor_lt_two_pow (by omega) (by omega)
  show IntKind.u8.wrap ((BitVec.ofInt 8 (a : Int) ^^^ BitVec.ofInt 8 (b : Int)).toNat : Int) = _
  rw [BitVec.toNat_xor, ofInt8 a ha, ofInt8 b hb, wrap_u8]
  omega
/-- What n first values are unlike in. -/
def xs (g : Nat → Nat) : Nat → Nat
  | 0 => 0
  | n + 1 => xs g n ^^^ g n
theorem xs_lt {g : Nat → Nat} (h : ∀ i, g i < 256) : ∀ n, xs g n < 256
  | 0 => by show 0 < 256; decide
  | n + 1 => Nat.xor_lt_two_pow (n := 8) (xs_lt h n) (h n)
theorem xs_zero {g : Nat → Nat} : ∀ (m n : Nat), (∀ i, n ≤ i → i < n + m → g i = 0) → xs g (n + m) = xs g n
  | 0, n, _ => rfl
  | m + 1, n, h => by rw [← Nat.add_assoc, xs, xs_zero m n (fun i h1 h2 => h i h1 (by omega)), h (n + m) (by omega) (by omega), Nat.xor_zero]
theorem xs_add (g : Nat → Nat) (n : Nat) : ∀ m, xs g (n + m) = xs g n ^^^ xs (fun i => g (n + i)) m
  | 0 => by rw [xs, Nat.xor_zero]; rfl
  | m + 1 => by rw [← Nat.add_assoc, xs, xs_add g n m, xs, Nat.xor_assoc]
theorem xs_congr {g h : Nat → Nat} : ∀ n, (∀ i, i < n → g i = h i) → xs g n = xs h n
  | 0, _ => rfl
  | n + 1, e => by rw [xs, xs, xs_congr n (fun i hi => e i (by omega)), e n (by omega)]
theorem xs_xor (g h : Nat → Nat) : ∀ n, xs (fun i => g i ^^^ h i) n = xs g n ^^^ xs h n
  | 0 => by simp [xs]
  | n + 1 => by
    rw [xs, xs, xs, xs_xor g h n]
    rw [Nat.xor_assoc, Nat.xor_assoc, ← Nat.xor_assoc (xs h n), Nat.xor_comm (xs h n), Nat.xor_assoc (g n)]
/-- The byte at i. -/
def bn (l : List Int) (i : Nat) : Nat := (rd l (i : Int)).toNat
theorem bn_rd {l : List Int} (h : Byt l) (i : Nat) : rd l (i : Int) = (bn l i : Int) ∧ bn l i < 256 := by
  have : 0 ≤ rd l (i : Int) ∧ rd l (i : Int) ≤ 255 := by
    unfold rd
    rw [Int.toNat_natCast, List.getD_eq_getElem?_getD]
    by_cases hi : i < l.length
    · rw [List.getElem?_eq_getElem hi]
      exact h _ (List.getElem_mem _)
    · rw [List.getElem?_eq_none (by omega)]
      exact ⟨by decide, by decide⟩
  unfold bn
  omega
theorem bn_none (l : List Int) (i : Nat) (h : l.length ≤ i) : bn l i = 0 := by
  unfold bn rd
  rw [Int.toNat_natCast, List.getD_eq_getElem?_getD, List.getElem?_eq_none h]
  rfl
/-- What is folded into place k. -/
def gc (l : List Int) (s k i : Nat) : Nat := if i % s = k then bn l i else 0
theorem gc_lt {l : List Int} (h : Byt l) (s k i : Nat) : gc l s k i < 256 := by
  unfold gc
  split
  · exact (bn_rd h i).2
  · decide
def col (l : List Int) (s k : Nat) : Nat := xs (gc l s k) l.length
theorem col_lt {l : List Int} (h : Byt l) (s k : Nat) : col l s k < 256 := xs_lt (gc_lt h s k) _
def foldS (l : List Int) (s : Nat) : List Int := (List.range s).map fun k => (col l s k : Int)
def foldP (l : List Int) (s i : Nat) : List Int := (List.range s).map fun k => (xs (gc l s k) i : Int)
theorem foldP_length (l : List Int) (s i : Nat) : (foldP l s i).length = s := by simp [foldP]
theorem foldS_length (l : List Int) (s : Nat) : (foldS l s).length = s := by simp [foldS]
theorem foldP_rd (l : List Int) (s i k : Nat) (h : k < s) : rd (foldP l s i) (k : Int) = (xs (gc l s k) i : Int) := by
  simp [rd, foldP, h, List.getD_eq_getElem?_getD]
theorem foldS_rd (l : List Int) (s k : Nat) (h : k < s) : rd (foldS l s) (k : Int) = (col l s k : Int) := by
  simp [rd, foldS, h, List.getD_eq_getElem?_getD]
theorem foldP_set (l : List Int) (s i : Nat) (hs : 0 < s) : (foldP l s i).set (i % s) ((xs (gc l s (i % s)) i ^^^ bn l i : Nat) : Int) = foldP l s (i + 1) := by
  apply List.ext_getElem
  · rw [List.length_set, foldP_length, foldP_length]
  · intro k h1 h2
    have hk : k < s := by rw [foldP_length] at h2; exact h2
    rw [List.getElem_set]
    simp only [foldP, List.getElem_map, List.getElem_range]
    by_cases he : i % s = k
    · rw [if_pos he, xs, gc, if_pos he, he]
    · rw [if_neg he, xs, gc, if_neg he, Nat.xor_zero]
theorem foldP_zero (l : List Int) (s : Nat) : List.replicate s (0 : Int) = foldP l s 0 := by
  apply List.ext_getElem
  · rw [foldP_length, List.length_replicate]
  · intro k h1 h2
    simp [foldP, xs]
theorem fold_l0 (l : List Int) (hb : Byt l) (hl : l.length ≤ 100000) (s : Nat) (hs : 0 < s) (hs2 : s ≤ 64) (m : Nat) : ∀ (i fuel : Nat), i + m = l.length → m + 1 ≤ fuel →
    fold_Fold.l0 fuel s (foldP l s i) l (l.length : Int) i = some (foldS l s, 0) := by
  induction m with
  | zero =>
    intro i fuel hi hf
    obtain ⟨f, rfl⟩ : ∃ f, fuel = f + 1 := ⟨fuel - 1, by omega⟩
    obtain rfl : i = l.length := by omega
    rw [fold_Fold.l0, if_neg (by omega)]
    rfl
  | succ m ih =>
    intro i fuel hi hf
    obtain ⟨f, rfl⟩ : ∃ f, fuel = f + 1 := ⟨fuel - 1, by omega⟩
    have ht : Int.tmod (i : Int) (s : Int) = ((i % s : Nat) : Int) := by rw [Int.tmod_eq_emod_of_nonneg (by omega)]; rfl
    have hlt : i % s < s := Nat.mod_lt _ hs
    obtain ⟨e1, h1⟩ := bn_rd hb i
    rw [fold_Fold.l0, if_pos (by omega), if_pos (by omega), if_pos (by omega), if_neg (by omega), ht, if_pos (by omega), if_pos (by rw [foldP_length]; omega), foldP_rd l s i _ hlt, e1,
      xor8 _ _ (xs_lt (gc_lt hb s _) i) h1, Int.toNat_natCast, foldP_set l s i hs, w64n (by omega) (by omega)]
    exact ih (i + 1) f (by omega) (by omega)
theorem fold_f (l : List Int) (hb : Byt l) (hl : l.length ≤ 100000) (s fuel : Nat) (hs : 0 < s) (hs2 : s ≤ 64) (hf : l.length + 2 ≤ fuel) : fold_Fold.f fuel l s = some (foldS l s, 0) := by
  obtain ⟨f, rfl⟩ : ∃ f, fuel = f + 1 := ⟨fuel - 1, by omega⟩
  rw [fold_Fold.f, if_neg (by omega), show decide ((s : Int) > 64) = false from decide_eq_false (by omega), fold_Fold.j0, if_neg (by decide), if_pos (by omega), Int.toNat_natCast, if_pos (by omega), foldP_zero l s]
  exact fold_l0 l hb hl s hs hs2 l.length 0 f (by omega) (by omega)
/-! The reference's Fold -/
theorem gc_between (l : List Int) (s k i : Nat) (hk : k < s) (hi : i % s = k) (j : Nat) (h1 : i < j) (h2 : j < i + s) : gc l s k j = 0 := by
  unfold gc
  rw [if_neg]
  intro he
  have h3 : (j - i) % s = j - i := Nat.mod_eq_of_lt (by omega)
  have h4 : j % s = ((i % s) + (j - i)) % s := by rw [Nat.mod_add_mod, show i + (j - i) = j by omega]
  rw [hi] at h4
  by_cases h5 : k + (j - i) < s
  · rw [Nat.mod_eq_of_lt h5] at h4
    omega
  · have h6 : (k + (j - i)) % s = k + (j - i) - s := by rw [Nat.mod_eq_sub_mod (by omega), Nat.mod_eq_of_lt (by omega)]
    omega
theorem xs_next (l : List Int) (s k i : Nat) (hk : k < s) (hi : i % s = k) : xs (gc l s k) (i + s) = xs (gc l s k) i ^^^ bn l i := by
  have h := xs_zero (g := gc l s k) (s - 1) (i + 1) (fun j h1 h2 => gc_between l s k i hk hi j (by omega) (by omega))
  rw [show i + 1 + (s - 1) = i + s by omega] at h
  rw [h, xs, gc, if_pos hi]
theorem xs_first (l : List Int) (s k : Nat) (hk : k < s) : xs (gc l s k) k = 0 := by
  have h := xs_zero (g := gc l s k) k 0 (fun j h1 h2 => by
    unfold gc
    rw [if_neg]
    rw [Nat.mod_eq_of_lt (by omega)]
    omega)
  rw [Nat.zero_add] at h
  rw [h]
  rfl
theorem xs_past (l : List Int) (s k i : Nat) (h : l.length ≤ i) : xs (gc l s k) i = col l s k := by
  have h2 := xs_zero (g := gc l s k) (i - l.length) l.length (fun j h1 h2 => by
    unfold gc
    split
    · exact bn_none l j h1
    · rfl)
  rw [show l.length + (i - l.length) = i by omega] at h2
  exact h2
theorem ref_l1 (l : List Int) (hb : Byt l) (hl : l.length ≤ 100000) (s : Nat) (hs2 : s ≤ 64) (out : List Int) (k : Nat) (hk : k < s) (hout : out.length = k) (m : Nat) : ∀ (i fuel : Nat), i % s = k → l.length ≤ i + m → 66 + m ≤ fuel →
    ∃ fuel', fuel ≤ fuel' + m + 1 ∧ chandleryref04_Fold.l1 fuel l s out k (xs (gc l s k) i : Nat) i = chandleryref04_Fold.l0 fuel' l s (out ++ [(col l s k : Int)]) ((k + 1 : Nat) : Int) := by
  have hcol := col_lt hb s k
  have done : ∀ (i fuel : Nat), l.length ≤ i → 66 ≤ fuel → ∃ fuel', fuel ≤ fuel' + 1 ∧ chandleryref04_Fold.l1 fuel l s out k (xs (gc l s k) i : Nat) i = chandleryref04_Fold.l0 fuel' l s (out ++ [(col l s k : Int)]) ((k + 1 : Nat) : Int) := by
    intro i fuel hm hf
    obtain ⟨f, rfl⟩ : ∃ f, fuel = f + 1 := ⟨fuel - 1, by omega⟩
    refine ⟨f, by omega, ?_⟩
    rw [chandleryref04_Fold.l1, if_neg (by omega), if_pos (by omega), xs_past l s k i (by omega), w64n (by omega) (by omega), show ((col l s k : Nat) : Int) % 256 = (col l s k : Int) by omega]
    rfl
  induction m with
  | zero =>
    intro i fuel hi hm hf
    exact done i fuel (by omega) (by omega)
  | succ m ih =>
    intro i fuel hi hm hf
    by_cases hlt : i < l.length
    · obtain ⟨f, rfl⟩ : ∃ f, fuel = f + 1 := ⟨fuel - 1, by omega⟩
      obtain ⟨e1, h1⟩ := bn_rd hb i
      have hx := xs_lt (gc_lt hb s k) i
      have hs : i + s ≥ i + 1 := by omega
      obtain ⟨f', hf', he⟩ := ih (i + s) f (by rw [Nat.add_mod_right]; exact hi) (by omega) (by omega)
      refine ⟨f', by omega, ?_⟩
      rw [chandleryref04_Fold.l1, if_pos (by omega), if_pos (by omega), e1, w64n (n := (bn l i : Int)) (by omega) (by omega), xor4_f _ _ f (by omega) (by omega) (by omega), Option.bind_some,
        show wrap64 ((i : Int) + (s : Int)) = ((i + s : Nat) : Int) by rw [w64n (by omega) (by omega)]; omega, ← xs_next l s k i hk hi]
      exact he
    · obtain ⟨f', hf', he⟩ := done i fuel (by omega) (by omega)
      exact ⟨f', by omega, he⟩
theorem ref_l0 (l : List Int) (hb : Byt l) (hl : l.length ≤ 100000) (s : Nat) (hs2 : s ≤ 64) (m : Nat) : ∀ (k fuel : Nat), k + m = s → 70 + m * (l.length + 3) ≤ fuel →
    chandleryref04_Fold.l0 fuel l s ((foldS l s).take k) k = some (foldS l s) := by
  induction m with
  | zero =>
    intro k fuel hk hf
    obtain ⟨f, rfl⟩ : ∃ f, fuel = f + 1 := ⟨fuel - 1, by omega⟩
    obtain rfl : k = s := by omega
    rw [chandleryref04_Fold.l0, if_neg (by omega), List.take_of_length_le (by rw [foldS_length]; exact Nat.le_refl _)]
  | succ m ih =>
    intro k fuel hk hf
    obtain ⟨f, rfl⟩ : ∃ f, fuel = f + 1 := ⟨fuel - 1, by omega⟩
    have hm : (m + 1) * (l.length + 3) = m * (l.length + 3) + (l.length + 3) := Nat.succ_mul _ _
    have hks : k < s := by omega
    obtain ⟨f', hf', he⟩ := ref_l1 l hb hl s hs2 ((foldS l s).take k) k hks (by rw [List.length_take, foldS_length]; omega) l.length k f (Nat.mod_eq_of_lt hks) (by omega) (by omega)
    rw [xs_first l s k hks] at he
    rw [chandleryref04_Fold.l0, if_pos (by omega)]
    refine he.trans ?_
    have ht : (foldS l s).take k ++ [(col l s k : Int)] = (foldS l s).take (k + 1) := by
      rw [List.take_succ_eq_append_getElem (by rw [foldS_length]; exact hks)]
      simp [foldS]
    rw [ht]
    exact ih (k + 1) f' (by omega) (by omega)
theorem ref_f (l : List Int) (hb : Byt l) (hl : l.length ≤ 100000) (s fuel : Nat) (hs2 : s ≤ 64) (hf : 70 + s * (l.length + 3) ≤ fuel) : chandleryref04_Fold.f fuel l s = some (foldS l s) := by
  have h := ref_l0 l hb hl s hs2 s 0 fuel (by omega) hf
  exact h
end Go.Proofs.Ytffcegbcjkhnoaa.Pure
