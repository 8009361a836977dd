/- Plain facts on the printed functions of package wire and of its reference: numbers as eight bytes, texts in units of eight; no memory and no program's step. -/
import Derived.Test.YtffcegbcjkhnoaaCWire
import Derived.Test.YtffcegbcjkhnoaaCRef
namespace Go.Proofs.Ytffcegbcjkhnoaa.PC
open Go.RowKit Go.Proofs.YtffcegbcjkhnoaaW.PrintWords Go.Proofs.YtffcegbcjkhnoaaW.PrintLast Go.Proofs.YtffcegbcjkhnoaaW.PrintMore
set_option linter.unusedVariables false

theorem w64 {n : Int} (h0 : -9223372036854775808 ≤ n) (h1 : n ≤ 9223372036854775807) : wrap64 n = n := by unfold wrap64; omega
theorem wu64 {n : Int} (h0 : 0 ≤ n) (h1 : n ≤ 18446744073709551615) : IntKind.u64.wrap n = n := by
  simp only [IntKind.wrap, IntKind.bits, IntKind.signed]
  simp
  omega
theorem wfb {x : Int} (h : (Lit.int .u8 x).wf = true) : 0 ≤ x ∧ x ≤ 255 := by
  simp only [Lit.wf, IntKind.min, IntKind.max, IntKind.signed, IntKind.bits, Bool.and_eq_true, decide_eq_true_eq] at h
  simpa using h
theorem wfi {x : Int} (h : (Lit.int .i64 x).wf = true) : -9223372036854775808 ≤ x ∧ x ≤ 9223372036854775807 := by
  simp only [Lit.wf, IntKind.min, IntKind.max, IntKind.signed, IntKind.bits, Bool.and_eq_true, decide_eq_true_eq] at h
  simpa using h
/-- Bytes. -/
def Byt (l : List Int) : Prop := ∀ x ∈ l, 0 ≤ x ∧ x ≤ 255
theorem Byt.nil : Byt [] := fun _ h => by cases h
theorem Byt.app {a b : List Int} (h : Byt a) (k : Byt b) : Byt (a ++ b) := fun x hx => (List.mem_append.1 hx).elim (h x) (k x)
theorem Byt.drop {a : List Int} (h : Byt a) (n : Nat) : Byt (a.drop n) := fun x hx => h x (List.mem_of_mem_drop hx)
theorem Byt.take {a : List Int} (h : Byt a) (n : Nat) : Byt (a.take n) := fun x hx => h x (List.mem_of_mem_take hx)
theorem Byt.of {l : List Int} (h : ∀ x ∈ l, (Lit.int .u8 x).wf = true) : Byt l := fun x hx => wfb (h x hx)
theorem byt_bytesOf (s : ByteArray) : Byt (bytesOf s) := fun x hx => by
  unfold bytesOf at hx
  obtain ⟨b, _, rfl⟩ := List.mem_map.1 hx
  have := b.toNat_lt
  omega
theorem Byt.zeros (n : Nat) : Byt (List.replicate n 0) := fun x hx => by
  obtain ⟨_, rfl⟩ := List.mem_replicate.1 hx
  omega
theorem rd_at (l : List Int) (i : Nat) (h : i < l.length) : rd l (i : Int) = l[i] := by simp [rd, List.getD_eq_getElem?_getD, List.getElem?_eq_getElem h]
theorem byt_rd {l : List Int} (h : Byt l) (i : Int) : 0 ≤ rd l i ∧ rd l i ≤ 255 := by
  unfold rd
  rw [List.getD_eq_getElem?_getD]
  rcases Nat.lt_or_ge i.toNat l.length with hi | hi
  · rw [List.getElem?_eq_getElem hi]
    exact h _ (List.getElem_mem hi)
  · rw [List.getElem?_eq_none hi]
    simp

/-! ### A number's bytes -/
def byteAt (n : Int) (j : Nat) : Int := n / 256 ^ j % 256
def numB (n : Int) : List Int := (List.range' 0 8).map (byteAt n)
theorem numB_length (n : Int) : (numB n).length = 8 := by simp [numB]
theorem numB_byt (n : Int) : Byt (numB n) := fun x hx => by
  unfold numB at hx
  obtain ⟨j, _, rfl⟩ := List.mem_map.1 hx
  unfold byteAt
  omega
def numV : List Int → Int
  | [] => 0
  | b :: l => b + 256 * numV l
theorem numV_nonneg {l : List Int} (h : Byt l) : 0 ≤ numV l := by
  induction l with
  | nil => exact Int.le_refl _
  | cons b l ih =>
    have := ih (fun x hx => h x (List.mem_cons_of_mem _ hx))
    have := h b List.mem_cons_self
    simp only [numV]
    omega
theorem pow256 (j : Nat) : (256 : Int) ^ j = 2 ^ (8 * j) := by
  rw [show (256 : Int) = 2 ^ 8 by decide, ← Int.pow_mul]
theorem byteAt_shr (n : Int) (j : Nat) (hj : j < 8) : (shr .i64 n (wrap64 (8 * (j : Int)))) % 256 = byteAt n j := by
  unfold shr byteAt
  rw [w64 (by omega) (by omega), pow256]
  have : min (8 * (j : Int)).toNat IntKind.i64.bits = 8 * j := by simp only [IntKind.bits]; omega
  rw [this]

theorem clone_f (l : List Int) (h : l.length < 140737488355328) : slices_Clone_byte_byte.f l = some l := by simp [slices_Clone_byte_byte.f, h]
theorem both_f (a b : List Int) (h : a.length + b.length < 140737488355328) : chandleryref01_Both.f a b = some (a ++ b) := by
  simp [chandleryref01_Both.f, show a.length < 140737488355328 by omega, h]
theorem small_f (l : List Int) (h : l.length ≤ 3000) : chandlerylaw01_small.f l = some true := by
  simp only [chandlerylaw01_small.f]
  congr 1
  exact decide_eq_true (by omega)
theorem small_not (l : List Int) (h : ¬ l.length ≤ 3000) : chandlerylaw01_small.f l = some false := by
  simp only [chandlerylaw01_small.f]
  congr 1
  exact decide_eq_false (by omega)

theorem put_l0 (n : Int) (m : Nat) : ∀ (j k : Nat) (x : List Int), j + m = 8 → x.length + m < 140737488355328 →
    wire_Put.l0 (k + m + 1) n x (j : Int) = some (x ++ (List.range' j m).map (byteAt n), 0) := by
  induction m with
  | zero =>
    intro j k x hj hl
    simp only [wire_Put.l0]
    rw [if_neg (by omega)]
    simp
  | succ m ih =>
    intro j k x hj hl
    rw [show k + (m + 1) + 1 = (k + m + 1) + 1 by omega, wire_Put.l0]
    rw [if_pos (by omega), if_pos (by rw [w64 (by omega) (by omega)]; omega), if_pos (by omega), byteAt_shr n j (by omega), w64 (by omega) (by omega)]
    have := ih (j + 1) k (x ++ [byteAt n j]) (by omega) (by simp; omega)
    rw [show ((j : Int) + 1) = ((j + 1 : Nat) : Int) by omega, this]
    simp [List.range'_succ]
theorem put_ok (k : Nat) (l : List Int) (n : Int) (h0 : 0 ≤ n) (h1 : n ≤ 2147483647) (hl : l.length < 140737488350000) (hk : 10 ≤ k) : wire_Put.f k l n = some (l ++ numB n, 0) := by
  obtain ⟨k, rfl⟩ : ∃ m, k = m + 10 := ⟨k - 10, by omega⟩
  unfold wire_Put.f
  rw [if_neg (by omega), show decide (n > 2147483647) = false from decide_eq_false (by omega)]
  show wire_Put.j0 (k + 9 + 1) l n false = _
  simp only [wire_Put.j0]
  rw [if_neg (by decide), clone_f l (by omega)]
  simp only [Option.bind_some]
  exact put_l0 n 8 0 k l rfl (by omega)
theorem put_no (k : Nat) (l : List Int) (n : Int) (h : n < 0 ∨ 2147483647 < n) (hk : 1 ≤ k) : wire_Put.f k l n = some ([], 1) := by
  obtain ⟨k, rfl⟩ : ∃ m, k = m + 1 := ⟨k - 1, by omega⟩
  unfold wire_Put.f
  by_cases h0 : n < 0
  · rw [if_pos h0]
    simp only [wire_Put.j0, if_true]
  · rw [if_neg h0, show decide (n > 2147483647) = true from decide_eq_true (by omega)]
    simp only [wire_Put.j0, if_true]

theorem byteAt_zero (n : Int) : byteAt n 0 = n % 256 := by simp [byteAt]
theorem byteAt_succ (n : Int) (j : Nat) : byteAt n (j + 1) = byteAt (n / 256) j := by
  unfold byteAt
  obtain ⟨p, hp⟩ : ∃ p : Nat, (256 : Int) ^ j = (p : Int) := ⟨256 ^ j, by simp⟩
  rw [Int.pow_succ, Int.mul_comm, hp, Int.ediv_ediv_of_nonneg (by decide)]
theorem number_l0 (m : Nat) : ∀ (j k : Nat) (n : Int) (x : List Int), j + m = 8 → 0 ≤ n → n ≤ 9223372036854775807 → x.length + m < 140737488355328 →
    chandleryref01_Number.l0 (k + m + 1) n x (j : Int) = some (x ++ (List.range' 0 m).map (byteAt n)) := by
  induction m with
  | zero =>
    intro j k n x hj h0 h1 hl
    simp only [chandleryref01_Number.l0]
    rw [if_neg (by omega)]
    simp
  | succ m ih =>
    intro j k n x hj h0 h1 hl
    rw [show k + (m + 1) + 1 = (k + m + 1) + 1 by omega, chandleryref01_Number.l0]
    have e1 : Int.tdiv n 256 = n / 256 := Int.tdiv_eq_ediv_of_nonneg h0
    have e2 : Int.tmod n 256 % 256 = byteAt n 0 := by rw [Int.tmod_eq_emod_of_nonneg h0, byteAt_zero]; omega
    rw [if_pos (by omega), if_pos (by omega), e1, e2, w64 (n := n / 256) (by omega) (by omega), w64 (n := (j : Int) + 1) (by omega) (by omega)]
    have := ih (j + 1) k (n / 256) (x ++ [byteAt n 0]) (by omega) (by omega) (by omega) (by simp; omega)
    rw [show ((j : Int) + 1) = ((j + 1 : Nat) : Int) by omega, this]
    have hs : (List.range' (0 + 1) m).map (byteAt n) = (List.range' 0 m).map (byteAt (n / 256)) := by
      rw [show (0 + 1) = 1 from rfl, ← List.map_add_range' (a := 1) (s := 0), List.map_map]
      apply List.map_congr_left
      intro a _
      show byteAt n (1 + a) = _
      rw [Nat.add_comm, byteAt_succ]
    rw [List.range'_succ, List.map_cons, hs]
    simp
theorem number_f (k : Nat) (n : Int) (h0 : 0 ≤ n) (h1 : n ≤ 9223372036854775807) (hk : 9 ≤ k) : chandleryref01_Number.f k n = some (numB n) := by
  obtain ⟨k, rfl⟩ : ∃ m, k = m + 9 := ⟨k - 9, by omega⟩
  unfold chandleryref01_Number.f
  exact (number_l0 8 0 k n [] rfl h0 h1 (by simp)).trans (by simp [numB])
theorem numV_bytes (m : Nat) : ∀ (n : Int), 0 ≤ n → n < 256 ^ m → numV ((List.range' 0 m).map (byteAt n)) = n := by
  induction m with
  | zero => intro n h0 h1; simp at h1; simp [numV]; omega
  | succ m ih =>
    intro n h0 h1
    have hs : (List.range' (0 + 1) m).map (byteAt n) = (List.range' 0 m).map (byteAt (n / 256)) := by
      rw [show (0 + 1) = 1 from rfl, ← List.map_add_range' (a := 1) (s := 0), List.map_map]
      apply List.map_congr_left
      intro a _
      show byteAt n (1 + a) = _
      rw [Nat.add_comm, byteAt_succ]
    rw [List.range'_succ, List.map_cons, hs]
    simp only [numV]
    rw [ih (n / 256) (by omega) (by rw [Int.pow_succ] at h1; omega), byteAt_zero]
    omega
theorem numV_numB (n : Int) (h0 : 0 ≤ n) (h1 : n ≤ 2147483647) : numV (numB n) = n := numV_bytes 8 n h0 (by omega)
theorem bytes_numV (l : List Int) (h : Byt l) : (List.range' 0 l.length).map (byteAt (numV l)) = l := by
  induction l with
  | nil => rfl
  | cons b l ih =>
    have hb := h b List.mem_cons_self
    have hi := ih (fun x hx => h x (List.mem_cons_of_mem _ hx))
    rw [List.length_cons, List.range'_succ, List.map_cons]
    have e0 : byteAt (numV (b :: l)) 0 = b := by rw [byteAt_zero]; simp only [numV]; omega
    have hs : (List.range' (0 + 1) l.length).map (byteAt (numV (b :: l))) = (List.range' 0 l.length).map (byteAt (numV l)) := by
      rw [show (0 + 1) = 1 from rfl, ← List.map_add_range' (a := 1) (s := 0), List.map_map]
      apply List.map_congr_left
      intro a _
      show byteAt _ (1 + a) = _
      rw [Nat.add_comm, byteAt_succ]
      congr 1
      simp only [numV]
      omega
    rw [e0, hs, hi]
theorem numB_numV (l : List Int) (h : Byt l) (h8 : l.length = 8) : numB (numV l) = l := by
  have := bytes_numV l h
  rwa [h8] at this

end Go.Proofs.Ytffcegbcjkhnoaa.PC
