/- Plain facts: the reference's scalar functions on words give the words of sha256.mix; the words stay below 2^32. -/
import Derived.Test.YtffcegbcjkhnoaaMBits
import Derived.Test.YtffcegbcjkhnoaaGMix
namespace Go.Proofs.Ytffcegbcjkhnoaa.PC
open Go.RowKit Go.Proofs.YtffcegbcjkhnoaaW.PrintWords Go.Proofs.YtffcegbcjkhnoaaW.PrintLast Go.Proofs.YtffcegbcjkhnoaaW.PrintMore
set_option linter.unusedVariables false
/-- A word. -/
def U (x : Int) : Prop := 0 ≤ x ∧ x < 4294967296
theorem U.nat {x : Int} (h : U x) : ∃ n : Nat, x = (n : Int) ∧ n < 4294967296 := ⟨x.toNat, by have := h.1; omega, by have := h.1; have := h.2; omega⟩
theorem U_mod (n : Int) : U (n % 4294967296) := ⟨by omega, by omega⟩
theorem U_bits (o : BinOp) (a b : Int) : U (Go.bits o .u32 a b) := by
  have : ∃ n : Int, Go.bits o .u32 a b = IntKind.u32.wrap n := by
    unfold Go.bits
    exact ⟨_, rfl⟩
  obtain ⟨n, hn⟩ := this
  rw [hn, IntKind.wrap_u32]
  exact U_mod n
theorem U_rotr (x n : Int) : U (rotr x n) := U_bits _ _ _
theorem U_div {x : Int} (h : U x) (k : Nat) (hk : 0 < k) : U (x / (k : Int)) := by
  obtain ⟨n, rfl, hn⟩ := h.nat
  have := Nat.div_le_self n k
  rw [show (n : Int) / (k : Int) = ((n / k : Nat) : Int) from rfl]
  generalize n / k = m at *
  exact ⟨by omega, by omega⟩
theorem xor_u {x y z : Int} (hx : U x) (hy : U y) (hz : U z) : chandleryref03_xor.f 40 x y z = some (Go.bits .xor .u32 (Go.bits .xor .u32 x y) z) := by
  obtain ⟨a, rfl, ha⟩ := hx.nat
  obtain ⟨b, rfl, hb⟩ := hy.nat
  obtain ⟨c, rfl, hc⟩ := hz.nat
  rw [xor_f 7 a b c ha hb hc, xor32 a b ha hb, xor32 _ c (Nat.xor_lt_two_pow (n := 32) (by omega) (by omega)) hc]
theorem max32 : IntKind.u32.max = ((4294967295 : Nat) : Int) := by decide
theorem choose_u {x y z : Int} (hx : U x) (hy : U y) (hz : U z) : chandleryref03_choose.f 40 x y z = some (Go.bits .xor .u32 (Go.bits .and .u32 x y) (Go.bits .and .u32 (Go.bits .xor .u32 IntKind.u32.max x) z)) := by
  obtain ⟨a, rfl, ha⟩ := hx.nat
  obtain ⟨b, rfl, hb⟩ := hy.nat
  obtain ⟨c, rfl, hc⟩ := hz.nat
  have h1 : 4294967295 ^^^ a < 4294967296 := Nat.xor_lt_two_pow (n := 32) (by omega) (by omega)
  have h2 : a &&& b < 4294967296 := Nat.and_lt_two_pow (n := 32) _ (by omega)
  have h3 : (4294967295 ^^^ a) &&& c < 4294967296 := Nat.and_lt_two_pow (n := 32) _ (by omega)
  rw [choose_f 7 a b c ha hb hc, max32, xor32 _ a (by omega) ha, and32 a b ha hb, and32 _ c h1 hc, xor32 _ _ h2 h3]
theorem most_u {x y z : Int} (hx : U x) (hy : U y) (hz : U z) : chandleryref03_most.f 40 x y z = some (Go.bits .xor .u32 (Go.bits .xor .u32 (Go.bits .and .u32 x y) (Go.bits .and .u32 x z)) (Go.bits .and .u32 y z)) := by
  obtain ⟨a, rfl, ha⟩ := hx.nat
  obtain ⟨b, rfl, hb⟩ := hy.nat
  obtain ⟨c, rfl, hc⟩ := hz.nat
  have h1 : a &&& b < 4294967296 := Nat.and_lt_two_pow (n := 32) _ (by omega)
  have h2 : a &&& c < 4294967296 := Nat.and_lt_two_pow (n := 32) _ (by omega)
  have h3 : b &&& c < 4294967296 := Nat.and_lt_two_pow (n := 32) _ (by omega)
  rw [most_f 7 a b c ha hb hc, and32 a b ha hb, and32 a c ha hc, and32 b c hb hc, xor32 _ _ h1 h2, xor32 _ _ (Nat.xor_lt_two_pow (n := 32) h1 h2) h3]
theorem rot_u {x : Int} (hx : U x) (n : Nat) (h0 : 0 < n) (h1 : n < 32) : chandleryref03_rot.f 40 x (n : Int) = some (rotr x n) := by
  obtain ⟨a, rfl, ha⟩ := hx.nat
  exact rot_f a n ha h0 h1
theorem U_wordB (bs : List Int) (t : Nat) : U (wordB bs t) := U_bits _ _ _
theorem U_nextW (ws : List Int) (t : Nat) : U (nextW ws t) := U_mod _
theorem U_sig0 (y : Int) : U (sig0 y) := U_bits _ _ _
theorem U_sig1 (y : Int) : U (sig1 y) := U_bits _ _ _
theorem U_tri (x a b c : Int) : U (tri x a b c) := U_bits _ _ _
theorem U_set {l : List Int} (h : ∀ x ∈ l, U x) (i : Nat) {v : Int} (hv : U v) : ∀ x ∈ l.set i v, U x := by
  intro x hx
  rcases List.mem_or_eq_of_mem_set hx with h1 | h1
  · exact h x h1
  · rw [h1]; exact hv
theorem U_wsAt (bs : List Int) (t : Nat) : ∀ x ∈ wsAt bs t, U x := by
  induction t with
  | zero =>
    intro x hx
    rw [wsAt] at hx
    rw [(List.mem_replicate.1 hx).2]
    exact ⟨by omega, by omega⟩
  | succ t ih =>
    rw [wsAt]
    apply U_set ih
    split
    · exact U_wordB _ _
    · exact U_nextW _ _
theorem U_rd {l : List Int} (h : ∀ x ∈ l, U x) (i : Int) : U (rd l i) := by
  unfold rd
  by_cases hi : i.toNat < l.length
  · rw [List.getD_eq_getElem?_getD, List.getElem?_eq_getElem hi]
    exact h _ (List.getElem_mem _)
  · rw [List.getD_eq_getElem?_getD, List.getElem?_eq_none (by omega)]
    exact ⟨by decide, by decide⟩
theorem U_vsAt {ss : List Int} (h : ∀ x ∈ ss, U x) (ws : List Int) (t : Nat) : ∀ x ∈ vsAt ss ws t, U x := by
  induction t with
  | zero =>
    intro x hx
    simp only [vsAt, List.mem_cons, List.not_mem_nil, or_false] at hx
    rcases hx with rfl | rfl | rfl | rfl | rfl | rfl | rfl | rfl <;> exact U_rd h _
  | succ t ih =>
    intro x hx
    simp only [vsAt, rndV, List.mem_cons, List.not_mem_nil, or_false] at hx
    rcases hx with rfl | rfl | rfl | rfl | rfl | rfl | rfl | rfl <;> first | exact U_mod _ | exact U_rd ih _
theorem U_mixS (ss bs : List Int) : ∀ x ∈ mixS ss bs, U x := by
  intro x hx
  simp only [mixS, List.mem_map] at hx
  obtain ⟨i, _, rfl⟩ := hx
  exact U_mod _
theorem U_KK : ∀ x ∈ KK, U x := by
  have : ∀ x ∈ KK, 0 ≤ x ∧ x < 4294967296 := by decide +kernel
  exact this
theorem KK_k : chandleryref03_k.f 300 = some KK := by decide +kernel
/-- The first t words. -/
def wsT (bs : List Int) (t : Nat) : List Int := (wsAt bs t).take t
theorem wsT_length (bs : List Int) (t : Nat) (h : t ≤ 64) : (wsT bs t).length = t := by
  rw [wsT, List.length_take, wsAt_length]
  omega
theorem wsT_all (bs : List Int) : wsT bs 64 = wsAt bs 64 := by
  rw [wsT]
  exact List.take_of_length_le (by rw [wsAt_length]; omega)
theorem wsT_rd (bs : List Int) (t i : Nat) (h : i < t) : rd (wsT bs t) (i : Int) = rd (wsAt bs t) (i : Int) := by
  unfold rd wsT
  rw [Int.toNat_natCast, List.getD_eq_getElem?_getD, List.getD_eq_getElem?_getD, List.getElem?_take_of_lt h]
theorem wsT_succ (bs : List Int) (t : Nat) (h : t < 64) : wsT bs t ++ [if t < 16 then wordB bs t else nextW (wsAt bs t) t] = wsT bs (t + 1) := by
  unfold wsT
  have hl := wsAt_length bs t
  rw [wsAt, List.take_succ_eq_append_getElem (by rw [List.length_set]; omega), List.take_set_of_le (Nat.le_refl _), List.getElem_set_self]
theorem U_wsT (bs : List Int) (t : Nat) : ∀ x ∈ wsT bs t, U x := fun x hx => U_wsAt bs t x (List.mem_of_mem_take hx)
def U8 (x : Int) : Prop := 0 ≤ x ∧ x < 256
theorem U8_rd {l : List Int} (h : ∀ x ∈ l, U8 x) (i : Int) : U8 (rd l i) := by
  unfold rd
  by_cases hi : i.toNat < l.length
  · rw [List.getD_eq_getElem?_getD, List.getElem?_eq_getElem hi]
    exact h _ (List.getElem_mem _)
  · rw [List.getD_eq_getElem?_getD, List.getElem?_eq_none (by omega)]
    exact ⟨by decide, by decide⟩
theorem U8.nat {x : Int} (h : U8 x) : ∃ n : Nat, x = (n : Int) ∧ n < 256 := ⟨x.toNat, by have := h.1; omega, by have := h.1; have := h.2; omega⟩
theorem word_nat (a b c d : Nat) (ha : a < 256) (hb : b < 256) (hc : c < 256) (hd : d < 256) :
    Go.bits .or .u32 (Go.bits .or .u32 (Go.bits .or .u32 ((a : Int) % 4294967296 * 16777216 % 4294967296) ((b : Int) % 4294967296 * 65536 % 4294967296)) ((c : Int) % 4294967296 * 256 % 4294967296)) ((d : Int) % 4294967296) = ((16777216 * a + 65536 * b + 256 * c + d : Nat) : Int) := by
  rw [show (a : Int) % 4294967296 * 16777216 % 4294967296 = ((2 ^ 24 * a : Nat) : Int) by omega, show (b : Int) % 4294967296 * 65536 % 4294967296 = ((2 ^ 16 * b : Nat) : Int) by omega,
    show (c : Int) % 4294967296 * 256 % 4294967296 = ((2 ^ 8 * c : Nat) : Int) by omega, show (d : Int) % 4294967296 = (d : Int) by omega,
    or32 _ _ (by omega) (by omega), ← Nat.two_pow_add_eq_or_of_lt (show 2 ^ 16 * b < 2 ^ 24 by omega), show 2 ^ 24 * a + 2 ^ 16 * b = 2 ^ 16 * (2 ^ 8 * a + b) by omega,
    or32 _ _ (by omega) (by omega), ← Nat.two_pow_add_eq_or_of_lt (show 2 ^ 8 * c < 2 ^ 16 by omega), show 2 ^ 16 * (2 ^ 8 * a + b) + 2 ^ 8 * c = 2 ^ 8 * (2 ^ 16 * a + 2 ^ 8 * b + c) by omega,
    or32 _ _ (by omega) (by omega), ← Nat.two_pow_add_eq_or_of_lt (show d < 2 ^ 8 by omega)]
theorem rd_drop (l : List Int) (p j : Nat) : rd (l.drop p) (j : Int) = rd l ((p + j : Nat) : Int) := by
  unfold rd
  rw [Int.toNat_natCast, Int.toNat_natCast, List.getD_eq_getElem?_getD, List.getD_eq_getElem?_getD, List.getElem?_drop]
theorem word_u (bs : List Int) (hb : ∀ x ∈ bs, U8 x) (hl : bs.length = 64) (t : Nat) (h : t < 16) : chandleryref03_word.f (bs.drop (4 * t)) = some (wordB bs t) := by
  have hd : (bs.drop (4 * t)).length = 64 - 4 * t := by rw [List.length_drop, hl]
  obtain ⟨a, ea, ha⟩ := (U8_rd hb (4 * (t : Int))).nat
  obtain ⟨b, eb, hb2⟩ := (U8_rd hb (4 * (t : Int) + 1)).nat
  obtain ⟨c, ec, hc⟩ := (U8_rd hb (4 * (t : Int) + 2)).nat
  obtain ⟨d, ed, hd2⟩ := (U8_rd hb (4 * (t : Int) + 3)).nat
  have r0 : rd (bs.drop (4 * t)) 0 = (a : Int) := by rw [← ea, show (0 : Int) = ((0 : Nat) : Int) from rfl, rd_drop]; congr 1 <;> omega
  have r1 : rd (bs.drop (4 * t)) 1 = (b : Int) := by rw [← eb, show (1 : Int) = ((1 : Nat) : Int) from rfl, rd_drop]; congr 1 <;> omega
  have r2 : rd (bs.drop (4 * t)) 2 = (c : Int) := by rw [← ec, show (2 : Int) = ((2 : Nat) : Int) from rfl, rd_drop]; congr 1 <;> omega
  have r3 : rd (bs.drop (4 * t)) 3 = (d : Int) := by rw [← ed, show (3 : Int) = ((3 : Nat) : Int) from rfl, rd_drop]; congr 1 <;> omega
  unfold chandleryref03_word.f
  rw [if_pos (by omega), if_pos (by omega), if_pos (by omega), if_pos (by omega), r0, r1, r2, r3, wordB, ea, eb, ec, ed, word_nat a b c d ha hb2 hc hd2]
  rw [w64n (n := (a : Int)) (by omega) (by omega), w64n (n := (b : Int)) (by omega) (by omega), w64n (n := (c : Int)) (by omega) (by omega), w64n (n := (d : Int)) (by omega) (by omega),
    w64n (n := 16777216 * (a : Int)) (by omega) (by omega), w64n (n := 65536 * (b : Int)) (by omega) (by omega), w64n (n := 256 * (c : Int)) (by omega) (by omega),
    w64n (n := 16777216 * (a : Int) + 65536 * (b : Int)) (by omega) (by omega), w64n (n := 16777216 * (a : Int) + 65536 * (b : Int) + 256 * (c : Int)) (by omega) (by omega), w64n (by omega) (by omega)]
  congr 1
end Go.Proofs.Ytffcegbcjkhnoaa.PC
