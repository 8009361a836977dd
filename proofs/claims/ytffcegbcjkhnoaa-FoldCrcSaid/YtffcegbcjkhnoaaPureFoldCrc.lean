/- The plain half of FoldCrc: the program's sum is the reference's, and with one bit turned it is another one. -/
import Derived.Test.YtffcegbcjkhnoaaCCrc
import Derived.Test.YtffcegbcjkhnoaaMFold
namespace Go.Proofs.Ytffcegbcjkhnoaa.Pure
open Go.RowKit Go.Proofs.Ytffcegbcjkhnoaa.PC Go.Proofs.YtffcegbcjkhnoaaW.PrintWords Go.Proofs.YtffcegbcjkhnoaaW.PrintLast
set_option linter.unusedVariables false
def TT (s : Nat) : Nat := (s / 2) ^^^ (if s % 2 = 1 then 3988292384 else 0)
def Tn : Nat → Nat → Nat
  | 0, s => s
  | n + 1, s => Tn n (TT s)
theorem TT_lt {s : Nat} (h : s < 4294967296) : TT s < 4294967296 := by
  unfold TT
  refine Nat.xor_lt_two_pow (n := 32) (by omega) ?_
  split <;> omega
theorem Tn_lt : ∀ (n s : Nat), s < 4294967296 → Tn n s < 4294967296
  | 0, _, h => h
  | n + 1, s, h => Tn_lt n (TT s) (TT_lt h)
theorem xor_cancel {a b c : Nat} (h : a ^^^ c = b ^^^ c) : a = b := by
  have h2 : (a ^^^ c) ^^^ c = (b ^^^ c) ^^^ c := by rw [h]
  rw [Nat.xor_assoc, Nat.xor_assoc, Nat.xor_self, Nat.xor_zero, Nat.xor_zero] at h2
  exact h2
theorem odd_even {s t : Nat} (hs : s < 4294967296) (ht : t < 4294967296) (h : (s / 2) ^^^ 3988292384 = t / 2) : False := by
  have h2 : (s / 2) ^^^ (t / 2) = 3988292384 := by rw [← h, ← Nat.xor_assoc, Nat.xor_self, Nat.zero_xor]
  have h3 : (s / 2) ^^^ (t / 2) < 2 ^ 31 := Nat.xor_lt_two_pow (by omega) (by omega)
  omega
theorem TT_inj {s t : Nat} (hs : s < 4294967296) (ht : t < 4294967296) (h : TT s = TT t) : s = t := by
  unfold TT at h
  by_cases h1 : s % 2 = 1 <;> by_cases h2 : t % 2 = 1
  · rw [if_pos h1, if_pos h2] at h
    have := xor_cancel h
    omega
  · rw [if_pos h1, if_neg h2, Nat.xor_zero] at h
    exact (odd_even hs ht h).elim
  · rw [if_neg h1, if_pos h2, Nat.xor_zero] at h
    exact (odd_even ht hs h.symm).elim
  · rw [if_neg h1, if_neg h2, Nat.xor_zero, Nat.xor_zero] at h
    omega
theorem Tn_inj : ∀ (n : Nat) {s t : Nat}, s < 4294967296 → t < 4294967296 → Tn n s = Tn n t → s = t
  | 0, _, _, _, _, h => h
  | n + 1, _, _, hs, ht, h => TT_inj hs ht (Tn_inj n (TT_lt hs) (TT_lt ht) h)
theorem turn1_nat (s : Nat) (h : s < 4294967296) : turn1 (s : Int) = (TT s : Int) := by
  unfold turn1 TT
  have ha : Go.bits .and .u32 (s : Int) 1 = ((s % 2 : Nat) : Int) := by
    have := and32 s 1 h (by omega)
    rw [Nat.and_one_is_mod] at this
    exact this
  rw [ha, show (s : Int) / 2 = ((s / 2 : Nat) : Int) from rfl]
  by_cases h1 : s % 2 = 1
  · have hb := and32 3988292384 4294967295 (by omega) (by omega)
    rw [h1, if_pos rfl, show -((1 : Nat) : Int) % 4294967296 = ((4294967295 : Nat) : Int) from rfl, show (3988292384 : Int) = ((3988292384 : Nat) : Int) from rfl, hb, show 3988292384 &&& 4294967295 = 3988292384 from rfl, xor32 _ _ (by omega) (by omega)]
  · have h0 : s % 2 = 0 := by omega
    have hb := and32 3988292384 0 (by omega) (by omega)
    rw [h0, if_neg (by decide), show -((0 : Nat) : Int) % 4294967296 = ((0 : Nat) : Int) from rfl, show (3988292384 : Int) = ((3988292384 : Nat) : Int) from rfl, hb, show 3988292384 &&& 0 = 0 from rfl, xor32 _ _ (by omega) (by omega)]
theorem turnN_nat : ∀ (n s : Nat), s < 4294967296 → turnN n (s : Int) = (Tn n s : Int)
  | 0, _, _ => rfl
  | n + 1, s, h => by rw [turnN, turn1_nat s h, turnN_nat n _ (TT_lt h), Tn]
/-- The sum behind i bytes. -/
def cst (l : List Int) : Nat → Nat
  | 0 => 4294967295
  | i + 1 => Tn 8 (cst l i ^^^ bn l i)
theorem cx_lt {l : List Int} (hb : Byt l) {c : Nat} (h : c < 4294967296) (i : Nat) : c ^^^ bn l i < 4294967296 :=
  Nat.xor_lt_two_pow (n := 32) h (by have := (bn_rd hb i).2; omega)
theorem cst_lt {l : List Int} (hb : Byt l) : ∀ i, cst l i < 4294967296
  | 0 => by show 4294967295 < 4294967296; decide
  | i + 1 => Tn_lt 8 _ (cx_lt hb (cst_lt hb i) i)
theorem step_nat {l : List Int} (hb : Byt l) (c i : Nat) (h : c < 4294967296) : fold_step.f (c : Int) (rd l (i : Int)) = some ((Tn 8 (c ^^^ bn l i) : Nat) : Int) := by
  obtain ⟨e, h1⟩ := bn_rd hb i
  rw [fold_step.f, e, show ((bn l i : Nat) : Int) % 4294967296 = (bn l i : Int) by omega, xor32 _ _ h (by omega), turnN_nat 8 _ (cx_lt hb h i)]
def crcN (l : List Int) : Nat := 4294967295 ^^^ cst l l.length
theorem crcN_lt {l : List Int} (hb : Byt l) : crcN l < 4294967296 := Nat.xor_lt_two_pow (n := 32) (by omega) (cst_lt hb _)
theorem crc_l0 (l : List Int) (hb : Byt l) (hl : l.length ≤ 100000) (m : Nat) : ∀ (i fuel : Nat), i + m = l.length → m + 1 ≤ fuel →
    fold_Crc.l0 fuel (cst l i) l (l.length : Int) i = some (crcN l : Int) := by
  induction m with
  | zero =>
    intro i fuel hi hf
    obtain ⟨f, rfl⟩ : ∃ f, fuel = f + 1 := ⟨fuel - 1, by omega⟩
    obtain rfl : i = l.length := by omega
    have hx := crcN_lt hb
    have hm : IntKind.u32.max = ((4294967295 : Nat) : Int) := by decide
    rw [fold_Crc.l0, if_neg (by omega), hm, xor32 _ _ (by omega) (cst_lt hb _)]
    rw [show (4294967295 ^^^ cst l l.length) = crcN l from rfl, w64n (by omega) (by omega)]
  | succ m ih =>
    intro i fuel hi hf
    obtain ⟨f, rfl⟩ : ∃ f, fuel = f + 1 := ⟨fuel - 1, by omega⟩
    rw [fold_Crc.l0, if_pos (by omega), if_pos (by omega), if_pos (by omega), step_nat hb _ i (cst_lt hb i), Option.bind_some, w64n (by omega) (by omega)]
    exact ih (i + 1) f (by omega) (by omega)
theorem crc_f (l : List Int) (hb : Byt l) (hl : l.length ≤ 100000) (fuel : Nat) (hf : l.length + 1 ≤ fuel) : fold_Crc.f fuel l = some (crcN l : Int) :=
  crc_l0 l hb hl l.length 0 fuel (by omega) hf
theorem xor_full : ∀ (m x : Nat), x < 2 ^ m → (2 ^ m - 1) ^^^ x = 2 ^ m - 1 - x
  | 0, x, h => by
    obtain rfl : x = 0 := by simpa using h
    rfl
  | m + 1, x, h => by
    have hp : 0 < 2 ^ m := Nat.two_pow_pos m
    rw [xor_digit, show (2 ^ (m + 1) - 1) / 2 = 2 ^ m - 1 by omega, xor_full m (x / 2) (by omega), show (2 ^ (m + 1) - 1) % 2 = 1 by omega]
    omega
theorem refc_l1 (l : List Int) (i : Nat) (m : Nat) : ∀ (j s fuel : Nat), j + m = 8 → s < 4294967296 → m + 70 ≤ fuel →
    ∃ fuel', fuel ≤ fuel' + m + 1 ∧ chandleryref04_Crc.l1 fuel l s i j = chandleryref04_Crc.l0 fuel' l ((Tn m s : Nat) : Int) (wrap64 ((i : Int) + 1)) := by
  induction m with
  | zero =>
    intro j s fuel hj hs hf
    obtain ⟨f, rfl⟩ : ∃ f, fuel = f + 1 := ⟨fuel - 1, by omega⟩
    refine ⟨f, by omega, ?_⟩
    rw [chandleryref04_Crc.l1, if_neg (by omega), Tn]
  | succ m ih =>
    intro j s fuel hj hs hf
    obtain ⟨f, rfl⟩ : ∃ f, fuel = f + 1 := ⟨fuel - 1, by omega⟩
    obtain ⟨f', hf', he⟩ := ih (j + 1) (TT s) f (by omega) (TT_lt hs) (by omega)
    refine ⟨f', by omega, ?_⟩
    rw [chandleryref04_Crc.l1, if_pos (by omega), tm2, half s hs, Tn, ← he, show wrap64 ((j : Int) + 1) = ((j + 1 : Nat) : Int) by rw [w64n (by omega) (by omega)]; omega]
    by_cases h1 : s % 2 = 1
    · rw [if_pos (by omega), show (3988292384 : Int) = ((3988292384 : Nat) : Int) from rfl, xor4_f _ _ f (by omega) (by omega) (by omega), Option.bind_some, TT, if_pos h1]
    · rw [if_neg (by omega), TT, if_neg h1, Nat.xor_zero]
theorem refc_l0 (l : List Int) (hb : Byt l) (hl : l.length ≤ 100000) (m : Nat) : ∀ (i fuel : Nat), i + m = l.length → 100 + m * 10 ≤ fuel →
    chandleryref04_Crc.l0 fuel l (cst l i) i = some (crcN l : Int) := by
  induction m with
  | zero =>
    intro i fuel hi hf
    obtain ⟨f, rfl⟩ : ∃ f, fuel = f + 1 := ⟨fuel - 1, by omega⟩
    obtain rfl : i = l.length := by omega
    have hc := cst_lt hb l.length
    have hx := xor_full 32 _ hc
    rw [chandleryref04_Crc.l0, if_neg (by omega), w64n (by omega) (by omega), crcN]
    rw [show (2 : Nat) ^ 32 - 1 = 4294967295 from rfl] at hx
    rw [hx]
    congr 1
    omega
  | succ m ih =>
    intro i fuel hi hf
    obtain ⟨f, rfl⟩ : ∃ f, fuel = f + 1 := ⟨fuel - 1, by omega⟩
    obtain ⟨e, h1⟩ := bn_rd hb i
    have hc := cst_lt hb i
    obtain ⟨f', hf', he⟩ := refc_l1 l i 8 0 (cst l i ^^^ bn l i) f (by omega) (cx_lt hb hc i) (by omega)
    rw [chandleryref04_Crc.l0, if_pos (by omega), if_pos (by omega), e, w64n (n := (bn l i : Int)) (by omega) (by omega), xor4_f _ _ f hc (by omega) (by omega), Option.bind_some]
    refine he.trans ?_
    rw [w64n (by omega) (by omega)]
    exact ih (i + 1) f' (by omega) (by omega)
theorem refc_f (l : List Int) (hb : Byt l) (hl : l.length ≤ 100000) (fuel : Nat) (hf : 100 + l.length * 10 ≤ fuel) : chandleryref04_Crc.f fuel l = some (crcN l : Int) :=
  refc_l0 l hb hl l.length 0 fuel (by omega) hf
/-! One byte is another one -/
theorem bn_set_other (l : List Int) (p i : Nat) (v : Int) (h : i ≠ p) : bn (l.set p v) i = bn l i := by
  unfold bn rd
  rw [Int.toNat_natCast, List.getD_eq_getElem?_getD, List.getD_eq_getElem?_getD, List.getElem?_set_ne (by omega)]
theorem bn_set_self (l : List Int) (p v : Nat) (h : p < l.length) : bn (l.set p (v : Int)) p = v := by
  unfold bn rd
  rw [Int.toNat_natCast, List.getD_eq_getElem?_getD, List.getElem?_set_self h]
  rfl
theorem cst_head (l : List Int) (p : Nat) (v : Int) : ∀ i, i ≤ p → cst (l.set p v) i = cst l i
  | 0, _ => rfl
  | i + 1, h => by rw [cst, cst, cst_head l p v i (by omega), bn_set_other l p i v (by omega)]
theorem cst_unlike (l : List Int) (hb : Byt l) (p v : Nat) (hp : p < l.length) (hv : v < 256) (hne : v ≠ bn l p) (hb2 : Byt (l.set p (v : Int))) : ∀ i, p < i → cst (l.set p (v : Int)) i ≠ cst l i
  | 0, h => by omega
  | i + 1, h => by
    intro he
    rw [cst, cst] at he
    have h2 := Tn_inj 8 (cx_lt hb2 (cst_lt hb2 i) i) (cx_lt hb (cst_lt hb i) i) he
    by_cases hi : i = p
    · subst hi
      rw [cst_head l i _ i (Nat.le_refl _), bn_set_self l i v hp, Nat.xor_comm, Nat.xor_comm (cst l i)] at h2
      exact hne (xor_cancel h2)
    · rw [bn_set_other l p i _ hi] at h2
      exact cst_unlike l hb p v hp hv hne hb2 i (by omega) (xor_cancel h2)
theorem crc_unlike (l : List Int) (hb : Byt l) (p v : Nat) (hp : p < l.length) (hv : v < 256) (hne : v ≠ bn l p) (hb2 : Byt (l.set p (v : Int))) : crcN (l.set p (v : Int)) ≠ crcN l := by
  intro h
  unfold crcN at h
  rw [List.length_set, Nat.xor_comm, Nat.xor_comm 4294967295] at h
  exact cst_unlike l hb p v hp hv hne hb2 l.length hp (xor_cancel h)
theorem crc_loop (l : List Int) (hb : Byt l) (hl : l.length ≤ 300) (n : Nat) (hn : n < 8 * l.length) (m : Nat) : ∀ (j fuel : Nat), j + m = n % 8 → 1000 + m ≤ fuel →
    chandlerylaw04_FoldCrc.l0 fuel n l (crcN l : Nat) ((2 ^ j : Nat) : Int) j = some true := by
  have ht : Int.tmod (n : Int) 8 = ((n % 8 : Nat) : Int) := by rw [Int.tmod_eq_emod_of_nonneg (by omega)]; rfl
  have hd : wrap64 (Int.tdiv (n : Int) 8) = ((n / 8 : Nat) : Int) := by rw [Int.tdiv_eq_ediv_of_nonneg (by omega), w64n (by omega) (by omega)]; rfl
  induction m with
  | zero =>
    intro j fuel hj hf
    obtain ⟨f, rfl⟩ : ∃ f, fuel = f + 1 := ⟨fuel - 1, by omega⟩
    have hp : n / 8 < l.length := by omega
    obtain ⟨e, h1⟩ := bn_rd hb (n / 8)
    have hw : 2 ^ j < 256 := Nat.lt_of_lt_of_le (Nat.pow_lt_pow_right (by decide) (show j < 8 by omega)) (by decide)
    have hx : bn l (n / 8) ^^^ 2 ^ j < 2 ^ 8 := Nat.xor_lt_two_pow (by omega) (by omega)
    have hne : bn l (n / 8) ^^^ 2 ^ j ≠ bn l (n / 8) := by
      intro h
      have h2 : (bn l (n / 8) ^^^ 2 ^ j) ^^^ bn l (n / 8) = 0 := by rw [h, Nat.xor_self]
      rw [Nat.xor_comm, ← Nat.xor_assoc, Nat.xor_self, Nat.zero_xor] at h2
      have := Nat.two_pow_pos j
      omega
    have hb2 : Byt (l.set (n / 8) ((bn l (n / 8) ^^^ 2 ^ j : Nat) : Int)) := by
      intro x hx2
      rcases List.mem_or_eq_of_mem_set hx2 with h | h
      · exact hb x h
      · rw [h]
        omega
    have hu := crc_unlike l hb (n / 8) (bn l (n / 8) ^^^ 2 ^ j) hp (by omega) hne hb2
    rw [chandlerylaw04_FoldCrc.l0, ht, if_neg (by omega), hd, if_pos (by omega), if_pos (by omega), e, w64n (n := (bn l (n / 8) : Int)) (by omega) (by omega), xor4_f _ _ f (by omega) (by omega) (by omega), Option.bind_some,
      chandlerylaw04_awake.f, Option.bind_some, if_pos rfl, Int.toNat_natCast, show ((bn l (n / 8) ^^^ 2 ^ j : Nat) : Int) % 256 = ((bn l (n / 8) ^^^ 2 ^ j : Nat) : Int) by omega,
      crc_f _ hb2 (by rw [List.length_set]; omega) f (by rw [List.length_set]; omega), Option.bind_some]
    congr 1
    rw [bne_iff_ne]
    intro h
    exact hu (by omega)
  | succ m ih =>
    intro j fuel hj hf
    obtain ⟨f, rfl⟩ : ∃ f, fuel = f + 1 := ⟨fuel - 1, by omega⟩
    have hw : 2 ^ j < 256 := Nat.lt_of_lt_of_le (Nat.pow_lt_pow_right (by decide) (show j < 8 by omega)) (by decide)
    have hp2 : wrap64 (2 * ((2 ^ j : Nat) : Int)) = ((2 ^ (j + 1) : Nat) : Int) := by
      rw [Nat.pow_succ]
      generalize 2 ^ j = q at *
      rw [w64n (by omega) (by omega)]
      omega
    rw [chandlerylaw04_FoldCrc.l0, ht, if_pos (by omega), hp2, show wrap64 ((j : Int) + 1) = ((j + 1 : Nat) : Int) by rw [w64n (by omega) (by omega)]; omega]
    exact ih (j + 1) f (by omega) (by omega)
theorem FoldCrc : chandlerylaw04_FoldCrc.Pure := by
  intro l0 a1 h1 h2 hw hw1
  have hb := Byt.of hw
  obtain ⟨k, hk⟩ : ∃ k : Nat, 5000 ≤ k := ⟨5000, Nat.le_refl _⟩
  refine ⟨k + 2, ?_⟩
  unfold chandlerylaw04_FoldCrc.f
  by_cases hn : (l0.length : Int) > 300
  · rw [if_pos hn]
  · rw [if_neg hn, Option.bind_some, if_pos (by simp only [List.length_nil]; omega), Option.bind_some, List.nil_append, crc_f l0 hb (by omega) (k + 2) (by omega), Option.bind_some, if_pos rfl, refc_f l0 hb (by omega) (k + 2) (by omega), Option.bind_some,
      show ((crcN l0 : Int) != (crcN l0 : Int)) = false by simp, chandlerylaw04_FoldCrc.j0, if_neg (by decide)]
    have hout : chandlerylaw04_FoldCrc.j1 (k + 1) a1 l0 (crcN l0 : Int) true = some true := by
      rw [chandlerylaw04_FoldCrc.j1, if_pos rfl, chandlerylaw04_awake.f, Option.bind_some]
    have e8 : wrap64 (8 * (l0.length : Int)) = 8 * (l0.length : Int) := w64n (by omega) (by omega)
    by_cases c1 : a1 < 0
    · rw [if_pos c1]
      exact hout
    by_cases c2 : a1 ≥ 8 * (l0.length : Int)
    · rw [if_neg c1, e8, decide_eq_true c2]
      exact hout
    obtain ⟨n, rfl⟩ := Int.eq_ofNat_of_zero_le (show 0 ≤ a1 by omega)
    rw [if_neg c1, e8, decide_eq_false c2, chandlerylaw04_FoldCrc.j1, if_neg (by decide)]
    exact crc_loop l0 hb (by omega) n (by omega) (n % 8) 0 k (by omega) (by omega)
end Go.Proofs.Ytffcegbcjkhnoaa.Pure
