/- Plain facts on the printed functions of package wire and of its reference: the number and the text at a place; no memory and no program's step. -/
import Derived.Test.YtffcegbcjkhnoaaMWire
namespace Go.Proofs.Ytffcegbcjkhnoaa.PC
open Go.RowKit Go.Proofs.YtffcegbcjkhnoaaW.PrintWords Go.Proofs.YtffcegbcjkhnoaaW.PrintLast Go.Proofs.YtffcegbcjkhnoaaW.PrintMore
set_option linter.unusedVariables false

/-! ### The number at a place -/
theorem numV_lt {l : List Int} (h : Byt l) : ∀ n, l.length ≤ n → numV l < 256 ^ n := by
  induction l with
  | nil =>
    intro n _
    exact Int.pow_pos (by decide)
  | cons b l ih =>
    intro n hn
    obtain ⟨m, rfl⟩ : ∃ m, n = m + 1 := ⟨n - 1, by simp at hn; omega⟩
    have := ih (fun x hx => h x (List.mem_cons_of_mem _ hx)) m (by simpa using hn)
    have := h b List.mem_cons_self
    simp only [numV]
    rw [Int.pow_succ]
    omega
theorem numV_drop_le {l : List Int} (h : Byt l) : ∀ m, numV (l.drop m) ≤ numV l := by
  induction l with
  | nil => intro m; simp
  | cons b l ih =>
    intro m
    have hl : Byt l := fun x hx => h x (List.mem_cons_of_mem _ hx)
    have hb := h b List.mem_cons_self
    have h0 := numV_nonneg hl
    cases m with
    | zero => exact Int.le_refl _
    | succ m =>
      have := ih hl m
      simp only [List.drop_succ_cons, numV]
      omega
theorem or_byte (x y : Int) (h0 : 0 ≤ x) (h1 : x < 72057594037927936) (h2 : 0 ≤ y) (h3 : y ≤ 255) :
    Go.bits .or .u64 (IntKind.u64.wrap (x * 256)) (IntKind.u64.wrap y) = y + 256 * x := by
  rw [wu64 (by omega) (by omega), wu64 h2 (by omega)]
  rw [bits_join .u64 64 (by decide) (fun n a b => wu64 a (by simp at b; omega)) 8 (x * 256) y (by omega) (by simp) (by omega) h2 (by omega) (by omega)]
  omega
def atS (l : List Int) (i : Int) : Int × Int × Int :=
  if i < 0 then (0, 0, 1) else if i > (l.length : Int) - 8 then (0, 0, 7) else
    if numV ((l.drop i.toNat).take 8) > 2147483647 then (0, 0, 2) else (numV ((l.drop i.toNat).take 8), i + 8, 0)
theorem slot8 (l : List Int) (i m : Nat) (h : i + 8 ≤ l.length) (hm : m < 8) : ((l.drop i).take 8).drop m = rd l ((i : Int) + m) :: ((l.drop i).take 8).drop (m + 1) := by
  have hlen : m < ((l.drop i).take 8).length := by simp; omega
  rw [List.drop_eq_getElem_cons hlen]
  congr 1
  rw [show ((i : Int) + m) = ((i + m : Nat) : Int) by omega, rd_at l (i + m) (by omega)]
  simp
theorem at_l0 (l : List Int) (i : Nat) (hi : i + 8 ≤ l.length) (hl : l.length ≤ 1000000000000) (hb : Byt l) : ∀ (m k : Nat), m ≤ 8 →
    wire_At.l0 (k + m + 1) l i (numV (((l.drop i).take 8).drop m)) ((m : Int) - 1) =
      if numV ((l.drop i).take 8) > 2147483647 then some (0, 0, 2) else some (numV ((l.drop i).take 8), (i : Int) + 8, 0) := by
  intro m
  have hbs : Byt ((l.drop i).take 8) := (hb.drop i).take 8
  induction m with
  | zero =>
    intro k hm
    simp only [wire_At.l0]
    rw [if_neg (by omega)]
    simp only [List.drop_zero]
    by_cases hv : numV ((l.drop i).take 8) > 2147483647
    · rw [if_pos hv, if_pos hv]
    · have := numV_nonneg hbs
      rw [if_neg hv, if_neg hv, w64 (by omega) (by omega), w64 (by omega) (by omega)]
  | succ m ih =>
    intro k hm
    rw [show k + (m + 1) + 1 = (k + m + 1) + 1 by omega, wire_At.l0]
    have e1 : ((m + 1 : Nat) : Int) - 1 = (m : Int) := by omega
    have e2 : wrap64 ((i : Int) + m) = (i : Int) + m := w64 (by omega) (by omega)
    have e3 : wrap64 ((m : Int) - 1) = (m : Int) - 1 := w64 (by omega) (by omega)
    rw [e1, if_pos (by omega), e2, if_pos (by omega), if_pos (by omega), e3]
    have hr := byt_rd hb ((i : Int) + m)
    have hn : Byt (((l.drop i).take 8).drop (m + 1)) := hbs.drop _
    have h0 := numV_nonneg hn
    have h1 := numV_lt hn 7 (by simp; omega)
    have h3 : (256 : Int) ^ 7 = 72057594037927936 := by decide
    rw [or_byte _ _ h0 (by omega) hr.1 hr.2]
    have hs := slot8 l i m hi (by omega)
    have : numV (((l.drop i).take 8).drop m) = rd l ((i : Int) + m) + 256 * numV (((l.drop i).take 8).drop (m + 1)) := by rw [hs, numV]
    rw [← this]
    exact ih k (by omega)
theorem numV_nil8 (l : List Int) (i : Nat) : numV (((l.drop i).take 8).drop 8) = 0 := by
  rw [List.drop_eq_nil_of_le (by simp; omega)]
  rfl
theorem at_f (k : Nat) (l : List Int) (i : Int) (hb : Byt l) (hl : l.length ≤ 1000000000000) (hk : 9 ≤ k) : wire_At.f k l i = some (atS l i) := by
  obtain ⟨k, rfl⟩ : ∃ m, k = m + 9 := ⟨k - 9, by omega⟩
  unfold wire_At.f atS
  rw [w64 (by omega) (by omega)]
  by_cases h0 : i < 0
  · rw [if_pos h0, if_pos h0]
  · rw [if_neg h0, if_neg h0]
    by_cases h1 : i > (l.length : Int) - 8
    · rw [if_pos h1, if_pos h1]
    · rw [if_neg h1, if_neg h1]
      obtain ⟨i, rfl⟩ := Int.eq_ofNat_of_zero_le (by omega : 0 ≤ i)
      have := at_l0 l i (by omega) hl hb 8 k (by omega)
      rw [numV_nil8] at this
      rw [Int.toNat_natCast]
      refine Eq.trans this ?_
      by_cases hv : numV ((l.drop i).take 8) > 2147483647
      · rw [if_pos hv, if_pos hv]
      · rw [if_neg hv, if_neg hv]
theorem rat_l0 (l : List Int) (i : Nat) (hi : i + 8 ≤ l.length) (hl : l.length ≤ 1000000000000) (hb : Byt l) : ∀ (m k : Nat), m ≤ 8 → numV (((l.drop i).take 8).drop m) ≤ 2147483647 →
    chandleryref01_At.l0 (k + m + 1) l i (numV (((l.drop i).take 8).drop m)) ((m : Int) - 1) =
      if numV ((l.drop i).take 8) > 2147483647 then some (0, 0, 2) else some (numV ((l.drop i).take 8), (i : Int) + 8, 0) := by
  intro m
  have hbs : Byt ((l.drop i).take 8) := (hb.drop i).take 8
  induction m with
  | zero =>
    intro k hm hv
    simp only [chandleryref01_At.l0]
    rw [if_neg (by omega)]
    simp only [List.drop_zero] at hv ⊢
    rw [if_neg (by omega), w64 (by omega) (by omega)]
  | succ m ih =>
    intro k hm hv
    rw [show k + (m + 1) + 1 = (k + m + 1) + 1 by omega, chandleryref01_At.l0]
    have e1 : ((m + 1 : Nat) : Int) - 1 = (m : Int) := by omega
    have e2 : wrap64 ((i : Int) + m) = (i : Int) + m := w64 (by omega) (by omega)
    have e3 : wrap64 ((m : Int) - 1) = (m : Int) - 1 := w64 (by omega) (by omega)
    have hr := byt_rd hb ((i : Int) + m)
    have hn : Byt (((l.drop i).take 8).drop (m + 1)) := hbs.drop _
    have h0 := numV_nonneg hn
    rw [e1, if_pos (by omega), e2, if_pos (by omega), if_pos (by omega), e3]
    have hs := slot8 l i m hi (by omega)
    have this : numV (((l.drop i).take 8).drop m) = rd l ((i : Int) + m) + 256 * numV (((l.drop i).take 8).drop (m + 1)) := by rw [hs, numV]
    have e4 : wrap64 (wrap64 (256 * numV (((l.drop i).take 8).drop (m + 1))) + wrap64 (rd l ((i : Int) + m))) = numV (((l.drop i).take 8).drop m) := by
      rw [w64 (n := rd l ((i : Int) + m)) (by omega) (by omega), w64 (n := 256 * numV (((l.drop i).take 8).drop (m + 1))) (by omega) (by omega), w64 (by omega) (by omega), this]
      omega
    rw [e4]
    by_cases hv' : numV (((l.drop i).take 8).drop m) > 2147483647
    · have := numV_drop_le hbs m
      rw [if_pos hv', if_pos (by omega)]
    · rw [if_neg hv']
      exact ih k (by omega) (by omega)
theorem rat_f (k : Nat) (l : List Int) (i : Int) (h0 : 0 ≤ i) (hb : Byt l) (hl : l.length ≤ 1000000000000) (hk : 9 ≤ k) : chandleryref01_At.f k l i = some (atS l i) := by
  obtain ⟨k, rfl⟩ : ∃ m, k = m + 9 := ⟨k - 9, by omega⟩
  unfold chandleryref01_At.f atS
  rw [w64 (by omega) (by omega), if_neg (by omega : ¬ i < 0)]
  by_cases h1 : i > (l.length : Int) - 8
  · rw [if_pos h1, if_pos h1]
  · rw [if_neg h1, if_neg h1]
    obtain ⟨i, rfl⟩ := Int.eq_ofNat_of_zero_le h0
    have := rat_l0 l i (by omega) hl hb 8 k (by omega) (by rw [numV_nil8]; omega)
    rw [numV_nil8] at this
    rw [Int.toNat_natCast]
    refine Eq.trans this ?_
    by_cases hv : numV ((l.drop i).take 8) > 2147483647
    · rw [if_pos hv, if_pos hv]
    · rw [if_neg hv, if_neg hv]
theorem atS_ok {l : List Int} {i : Int} (hb : Byt l) (h : (atS l i).2.2 = 0) : 0 ≤ i ∧ i + 8 ≤ l.length ∧ (atS l i).1 = numV ((l.drop i.toNat).take 8) ∧ (atS l i).2.1 = i + 8 ∧ 0 ≤ (atS l i).1 ∧ (atS l i).1 ≤ 2147483647 := by
  unfold atS at h ⊢
  by_cases h0 : i < 0
  · rw [if_pos h0] at h; cases h
  · rw [if_neg h0] at h ⊢
    by_cases h1 : i > (l.length : Int) - 8
    · rw [if_pos h1] at h; cases h
    · rw [if_neg h1] at h ⊢
      by_cases h2 : numV ((l.drop i.toNat).take 8) > 2147483647
      · rw [if_pos h2] at h; cases h
      · rw [if_neg h2]
        exact ⟨by omega, by omega, rfl, rfl, numV_nonneg ((hb.drop _).take _), by simp only; omega⟩

/-! ### The text at a place -/
def padI (n : Int) : Int := (8 - n % 8) % 8
theorem padI_bd (n : Int) : 0 ≤ padI n ∧ padI n ≤ 7 := by unfold padI; omega
theorem pad_f (n : Int) (h0 : 0 ≤ n) (h1 : n ≤ 9223372036854775807) : wire_pad.f n = some (padI n) := by
  unfold wire_pad.f padI
  rw [Int.tmod_eq_emod_of_nonneg h0, w64 (by omega) (by omega), Int.tmod_eq_emod_of_nonneg (by omega)]
def allZ (l : List Int) : Bool := l.all (fun x => decide (x = 0))
theorem allZ_cons0 {x : Int} {l : List Int} (h : x = 0) : allZ (x :: l) = allZ l := by simp [allZ, h]
theorem allZ_cons1 {x : Int} {l : List Int} (h : ¬ x = 0) : allZ (x :: l) = false := by simp [allZ, h]
def textS (l : List Int) (i : Int) : ByteArray × Int × Int :=
  if (atS l i).2.2 = 0 then
    (if (atS l i).1 + padI (atS l i).1 > (l.length : Int) - (atS l i).2.1 then ((⟨#[]⟩ : ByteArray), 0, 7)
    else if allZ ((l.take ((atS l i).2.1 + (atS l i).1 + padI (atS l i).1).toNat).drop ((atS l i).2.1 + (atS l i).1).toNat) = true then (strOfNums ((l.take ((atS l i).2.1 + (atS l i).1).toNat).drop (atS l i).2.1.toNat), (atS l i).2.1 + (atS l i).1 + padI (atS l i).1, 0)
    else ((⟨#[]⟩ : ByteArray), 0, 4))
  else ((⟨#[]⟩ : ByteArray), 0, (atS l i).2.2)
theorem text_l0 (l : List Int) (n a : Nat) (hl : l.length ≤ 1000000000000) (sub : List Int) (hsub : sub.length ≤ 1000000000000) (hn : a + n ≤ l.length) : ∀ (m j k : Nat), j + m = sub.length →
    wire_TextAt.l0 (k + m + 1) l (n : Int) (a : Int) ((a + n : Nat) : Int) sub (sub.length : Int) (j : Int) =
      if allZ (sub.drop j) = true then some (strOfNums ((l.take (a + n)).drop a), ((a + n : Nat) : Int) + padI n, 0) else some ((⟨#[]⟩ : ByteArray), 0, 4) := by
  intro m
  have hp := padI_bd n
  induction m with
  | zero =>
    intro j k hj
    simp only [wire_TextAt.l0]
    rw [if_neg (by omega), if_pos (by omega), if_pos (by omega), if_pos (by omega), pad_f _ (by omega) (by omega)]
    simp only [Option.bind_some]
    rw [w64 (by omega) (by omega), show sub.drop j = [] from List.drop_eq_nil_of_le (by omega), Int.toNat_natCast, Int.toNat_natCast]
    simp only [allZ, List.all_nil, if_true]
  | succ m ih =>
    intro j k hj
    rw [show k + (m + 1) + 1 = (k + m + 1) + 1 by omega, wire_TextAt.l0]
    rw [if_pos (by omega), if_pos (by omega), if_pos (by omega), rd_at sub j (by omega), List.drop_eq_getElem_cons (by omega : j < sub.length)]
    by_cases hz : sub[j]'(by omega) = 0
    · rw [if_pos hz, w64 (by omega) (by omega), show ((j : Int) + 1) = ((j + 1 : Nat) : Int) by omega, ih (j + 1) k (by omega), allZ_cons0 hz]
    · rw [if_neg hz, allZ_cons1 hz, if_neg (by decide)]
theorem rtext_l0 (l : List Int) (n a q : Nat) (hl : l.length ≤ 1000000000000) (hn : n ≤ q) (hq : a + q ≤ l.length) : ∀ (m j k : Nat), j + m = a + q →
    chandleryref01_TextAt.l0 (k + m + 1) l (n : Int) (a : Int) (q : Int) (j : Int) =
      if allZ ((l.take (a + q)).drop j) = true then some (strOfNums ((l.take (a + n)).drop a), (a : Int) + q, 0) else some ((⟨#[]⟩ : ByteArray), 0, 4) := by
  intro m
  have e1 : wrap64 ((a : Int) + q) = (a : Int) + q := w64 (by omega) (by omega)
  have e2 : wrap64 ((a : Int) + n) = (a : Int) + n := w64 (by omega) (by omega)
  induction m with
  | zero =>
    intro j k hj
    simp only [chandleryref01_TextAt.l0]
    rw [e1, e2, if_neg (by omega), if_pos (by omega), if_pos (by omega), if_pos (by omega), show (l.take (a + q)).drop j = [] from List.drop_eq_nil_of_le (by simp; omega), show ((a : Int) + n).toNat = a + n by omega, Int.toNat_natCast]
    simp only [allZ, List.all_nil, if_true]
  | succ m ih =>
    intro j k hj
    have hj' : j < (l.take (a + q)).length := by simp; omega
    rw [show k + (m + 1) + 1 = (k + m + 1) + 1 by omega, chandleryref01_TextAt.l0]
    rw [e1, if_pos (by omega), if_pos (by omega), if_pos (by omega), rd_at l j (by omega), List.drop_eq_getElem_cons hj']
    by_cases hz : l[j]'(by omega) = 0
    · rw [if_pos hz, w64 (by omega) (by omega), show ((j : Int) + 1) = ((j + 1 : Nat) : Int) by omega, ih (j + 1) k (by omega), allZ_cons0 (by simpa using hz)]
    · rw [if_neg hz, allZ_cons1 (by simpa using hz), if_neg (by decide)]
theorem textAt_f (k : Nat) (l : List Int) (i : Int) (hb : Byt l) (hl : l.length ≤ 1000000000000) (hk : 20 ≤ k) (hk2 : l.length + 20 ≤ k) : wire_TextAt.f k l i = some (textS l i) := by
  unfold wire_TextAt.f textS
  rw [at_f k l i hb hl (by omega)]
  simp only [Option.bind_some]
  by_cases he : (atS l i).2.2 = 0
  · obtain ⟨h0, h1, hv, ha, n0, n1⟩ := atS_ok hb he
    rw [if_pos he, if_pos he, ha]
    generalize (atS l i).1 = n at n0 n1
    obtain ⟨n, rfl⟩ := Int.eq_ofNat_of_zero_le n0
    obtain ⟨a, ha2⟩ := Int.eq_ofNat_of_zero_le (by omega : 0 ≤ i + 8)
    rw [ha2]
    have hp := padI_bd n
    obtain ⟨q, hq⟩ := Int.eq_ofNat_of_zero_le hp.1
    have ea : Aside0 (wrap64 ((a : Int) + n) = ((a + n : Nat) : Int)) := ⟨by rw [w64 (by omega) (by omega)]; omega⟩
    have eb : Aside0 (wrap64 ((l.length : Int) - (a : Int)) = (l.length : Int) - (a : Int)) := ⟨w64 (by omega) (by omega)⟩
    have ec : Aside0 (wrap64 ((l.length : Int) - ((a + n : Nat) : Int)) = (l.length : Int) - ((a + n : Nat) : Int)) := ⟨w64 (by omega) (by omega)⟩
    rw [eb.out, ea.out, pad_f (n : Int) (by omega) (by omega), Option.bind_some, ec.out]
    obtain ⟨k, rfl⟩ : ∃ m, k = m + 1 := ⟨k - 1, by omega⟩
    have hno : wire_TextAt.j0 (k + 1) l (n : Int) (a : Int) ((a + n : Nat) : Int) true = some ((⟨#[]⟩ : ByteArray), 0, 7) := by
      rw [wire_TextAt.j0, if_pos rfl]
    by_cases hx : (n : Int) > (l.length : Int) - (a : Int)
    · rw [if_pos hx, if_pos (by omega), hno]
    · rw [if_neg hx]
      by_cases hy : padI n > (l.length : Int) - ((a + n : Nat) : Int)
      · rw [if_pos (by omega), show decide (padI n > (l.length : Int) - ((a + n : Nat) : Int)) = true from decide_eq_true hy, hno]
      · rw [if_neg (by omega), show decide (padI n > (l.length : Int) - ((a + n : Nat) : Int)) = false from decide_eq_false hy]
        rw [wire_TextAt.j0, if_neg (by decide), pad_f (n : Int) (by omega) (by omega), Option.bind_some]
        have ed : Aside0 (wrap64 (((a + n : Nat) : Int) + padI n) = ((a + n + q : Nat) : Int)) := ⟨by rw [hq, w64 (by omega) (by omega)]; omega⟩
        rw [ed.out, if_pos (by omega), if_pos (by omega), if_pos (by omega), Int.toNat_natCast, Int.toNat_natCast]
        have hs : ((l.take (a + n + q)).drop (a + n)).length = q := by simp; omega
        have := text_l0 l n a hl ((l.take (a + n + q)).drop (a + n)) (by omega) (by omega) q 0 (k - 1 - q) (by omega)
        rw [show k - 1 - q + q + 1 = k by omega, List.drop_zero] at this
        rw [show ((0 : Nat) : Int) = 0 from rfl] at this
        rw [this, show ((a : Int) + n + padI n).toNat = a + n + q by omega, show ((a : Int) + n).toNat = a + n by omega, Int.toNat_natCast, show (((a + n : Nat) : Int) + padI n) = (a : Int) + n + padI n by omega]
        by_cases hz : allZ ((l.take (a + n + q)).drop (a + n)) = true
        · rw [if_pos hz, if_pos hz]
        · rw [if_neg hz, if_neg hz]
  · rw [if_neg he, if_neg he]
theorem rtextAt_f (k : Nat) (l : List Int) (i : Int) (hi : 0 ≤ i) (hb : Byt l) (hl : l.length ≤ 1000000000000) (hk : l.length + 20 ≤ k) : chandleryref01_TextAt.f k l i = some (textS l i) := by
  unfold chandleryref01_TextAt.f textS
  rw [rat_f k l i hi hb hl (by omega)]
  simp only [Option.bind_some]
  by_cases he : (atS l i).2.2 = 0
  · obtain ⟨h0, h1, hv, ha, n0, n1⟩ := atS_ok hb he
    rw [if_pos he, if_pos he, ha]
    generalize (atS l i).1 = n at n0 n1
    obtain ⟨n, rfl⟩ := Int.eq_ofNat_of_zero_le n0
    obtain ⟨a, ha2⟩ := Int.eq_ofNat_of_zero_le (by omega : 0 ≤ i + 8)
    rw [ha2]
    have hp := padI_bd n
    obtain ⟨q, hq⟩ := Int.eq_ofNat_of_zero_le hp.1
    have eq8 : Aside0 (wrap64 (wrap64 (Int.tdiv (wrap64 ((n : Int) + 7)) 8) * 8) = ((n + q : Nat) : Int)) := by
      refine ⟨?_⟩
      rw [w64 (n := (n : Int) + 7) (by omega) (by omega), Int.tdiv_eq_ediv_of_nonneg (by omega), w64 (n := ((n : Int) + 7) / 8) (by omega) (by omega), w64 (by omega) (by omega)]
      unfold padI at hq
      omega
    have eb : Aside0 (wrap64 ((l.length : Int) - (a : Int)) = (l.length : Int) - (a : Int)) := ⟨w64 (by omega) (by omega)⟩
    have ea : Aside0 (wrap64 ((a : Int) + n) = ((a + n : Nat) : Int)) := ⟨by rw [w64 (by omega) (by omega)]; omega⟩
    rw [eq8.out, eb.out, ea.out]
    by_cases hx : (n : Int) + padI n > (l.length : Int) - (a : Int)
    · rw [if_pos (by omega), if_pos hx]
    · rw [if_neg (by omega), if_neg hx]
      have := rtext_l0 l n a (n + q) hl (by omega) (by omega) q (a + n) (k - 1 - q) (by omega)
      rw [show k - 1 - q + q + 1 = k by omega] at this
      rw [this, show ((a : Int) + n + padI n).toNat = a + (n + q) by omega, show ((a : Int) + n).toNat = a + n by omega, Int.toNat_natCast, show (a : Int) + n + padI n = (a : Int) + ((n + q : Nat) : Int) by omega]
      by_cases hz : allZ ((l.take (a + (n + q))).drop (a + n)) = true
      · rw [if_pos hz, if_pos hz]
      · rw [if_neg hz, if_neg hz]
  · rw [if_neg he, if_neg he]
end Go.Proofs.Ytffcegbcjkhnoaa.PC
