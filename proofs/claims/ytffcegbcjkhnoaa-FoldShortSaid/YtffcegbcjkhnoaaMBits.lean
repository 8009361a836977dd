/- Plain facts about the bits of words below 2^32, and what the reference's scalar functions compute. -/
import Derived.Test.YtffcegbcjkhnoaaCWord
import Derived.Test.YtffcegbcjkhnoaaGArr
namespace Go.Proofs.Ytffcegbcjkhnoaa.PC
open Go.RowKit Go.Proofs.YtffcegbcjkhnoaaW.PrintWords Go.Proofs.YtffcegbcjkhnoaaW.PrintLast Go.Proofs.YtffcegbcjkhnoaaW.PrintMore
set_option linter.unusedVariables false
theorem ofInt32 (a : Nat) (ha : a < 4294967296) : (BitVec.ofInt 32 (a : Int)).toNat = a := by
  rw [BitVec.ofInt_natCast, BitVec.toNat_ofNat]
  exact Nat.mod_eq_of_lt (by omega)
theorem wrap32_nat (a : Nat) (ha : a < 4294967296) : IntKind.u32.wrap (a : Int) = (a : Int) := by
  rw [IntKind.wrap_u32]
  omega
theorem xor32 (a b : Nat) (ha : a < 4294967296) (hb : b < 4294967296) : Go.bits .xor .u32 (a : Int) (b : Int) = ((a ^^^ b : Nat) : Int) := by
  have hx : a ^^^ b < 2 ^ 32 := Nat.xor_lt_two_pow (by omega) (by omega)
  show IntKind.u32.wrap ((BitVec.ofInt 32 (a : Int) ^^^ BitVec.ofInt 32 (b : Int)).toNat : Int) = _
  rw [BitVec.toNat_xor, ofInt32 a ha, ofInt32 b hb, wrap32_nat _ (by omega)]
theorem and32 (a b : Nat) (ha : a < 4294967296) (hb : b < 4294967296) : Go.bits .and .u32 (a : Int) (b : Int) = ((a &&& b : Nat) : Int) := by
  have hx : a &&& b < 2 ^ 32 := Nat.and_lt_two_pow _ (by omega)
  show IntKind.u32.wrap ((BitVec.ofInt 32 (a : Int) &&& BitVec.ofInt 32 (b : Int)).toNat : Int) = _
  rw [BitVec.toNat_and, ofInt32 a ha, ofInt32 b hb, wrap32_nat _ (by omega)]
theorem or32 (a b : Nat) (ha : a < 4294967296) (hb : b < 4294967296) : Go.bits .or .u32 (a : Int) (b : Int) = ((a ||| b : Nat) : Int) := by
  have hx : a ||| b < 2 ^ 32 := Nat.or_lt_two_pow (by omega) (by omega)
  show IntKind.u32.wrap ((BitVec.ofInt 32 (a : Int) ||| BitVec.ofInt 32 (b : Int)).toNat : Int) = _
  rw [BitVec.toNat_or, ofInt32 a ha, ofInt32 b hb, wrap32_nat _ (by omega)]
/-- Digit by digit, the lowest first. -/
def S3 (g : Nat → Nat → Nat → Nat) : Nat → Nat → Nat → Nat → Nat
  | 0, _, _, _ => 0
  | m + 1, x, y, z => g (x % 2) (y % 2) (z % 2) + 2 * S3 g m (x / 2) (y / 2) (z / 2)
theorem two (t : Nat) : t = t % 2 + 2 * (t / 2) := by omega
theorem xor2 (a b : Nat) : (a ^^^ b) % 2 = (a % 2 + b % 2) % 2 := by
  have h := @Nat.testBit_xor a b 0
  simp only [Nat.testBit_zero] at h
  rcases Nat.mod_two_eq_zero_or_one a with h1 | h1 <;> rcases Nat.mod_two_eq_zero_or_one b with h2 | h2 <;> rcases Nat.mod_two_eq_zero_or_one (a ^^^ b) with h3 | h3 <;> simp [h1, h2, h3] at h ⊢
theorem and2 (a b : Nat) : (a &&& b) % 2 = (a % 2) * (b % 2) := by
  have h := @Nat.testBit_and a b 0
  simp only [Nat.testBit_zero] at h
  rcases Nat.mod_two_eq_zero_or_one a with h1 | h1 <;> rcases Nat.mod_two_eq_zero_or_one b with h2 | h2 <;> rcases Nat.mod_two_eq_zero_or_one (a &&& b) with h3 | h3 <;> simp [h1, h2, h3] at h ⊢
def gXor (a b c : Nat) : Nat := (a + b + c) % 2
def gCh (a b c : Nat) : Nat := if a = 1 then b else c
def gMaj (a b c : Nat) : Nat := (a + b + c) / 2
theorem S3_xor : ∀ m x y z : Nat, x < 2 ^ m → y < 2 ^ m → z < 2 ^ m → S3 gXor m x y z = (x ^^^ y) ^^^ z
  | 0, x, y, z, hx, hy, hz => by
    have h1 : x = 0 := by simpa using hx
    have h2 : y = 0 := by simpa using hy
    have h3 : z = 0 := by simpa using hz
    subst h1 h2 h3
    rfl
  | m + 1, x, y, z, hx, hy, hz => by
    have ih := S3_xor m (x / 2) (y / 2) (z / 2) (by omega) (by omega) (by omega)
    rw [S3, ih, two ((x ^^^ y) ^^^ z), Nat.xor_div_two, Nat.xor_div_two, xor2, xor2, gXor]
    omega
theorem S3_ch : ∀ m x y z : Nat, x < 2 ^ m → y < 2 ^ m → z < 2 ^ m → S3 gCh m x y z = (x &&& y) ^^^ (((2 ^ m - 1) ^^^ x) &&& z)
  | 0, x, y, z, hx, hy, hz => by
    have h1 : x = 0 := by simpa using hx
    have h2 : y = 0 := by simpa using hy
    have h3 : z = 0 := by simpa using hz
    subst h1 h2 h3
    rfl
  | m + 1, x, y, z, hx, hy, hz => by
    have ih := S3_ch m (x / 2) (y / 2) (z / 2) (by omega) (by omega) (by omega)
    have hp : 0 < 2 ^ m := Nat.two_pow_pos m
    rw [S3, ih, two ((x &&& y) ^^^ (((2 ^ (m + 1) - 1) ^^^ x) &&& z)), Nat.xor_div_two, Nat.and_div_two, Nat.and_div_two, Nat.xor_div_two, xor2, and2, and2, xor2, gCh,
      show (2 ^ (m + 1) - 1) / 2 = 2 ^ m - 1 by omega, show (2 ^ (m + 1) - 1) % 2 = 1 by omega]
    congr 1
    rcases Nat.mod_two_eq_zero_or_one x with h1 | h1 <;> rcases Nat.mod_two_eq_zero_or_one y with h2 | h2 <;> rcases Nat.mod_two_eq_zero_or_one z with h3 | h3 <;> simp [h1, h2, h3]
theorem S3_maj : ∀ m x y z : Nat, x < 2 ^ m → y < 2 ^ m → z < 2 ^ m → S3 gMaj m x y z = ((x &&& y) ^^^ (x &&& z)) ^^^ (y &&& z)
  | 0, x, y, z, hx, hy, hz => by
    have h1 : x = 0 := by simpa using hx
    have h2 : y = 0 := by simpa using hy
    have h3 : z = 0 := by simpa using hz
    subst h1 h2 h3
    rfl
  | m + 1, x, y, z, hx, hy, hz => by
    have ih := S3_maj m (x / 2) (y / 2) (z / 2) (by omega) (by omega) (by omega)
    rw [S3, ih, two (((x &&& y) ^^^ (x &&& z)) ^^^ (y &&& z)), Nat.xor_div_two, Nat.xor_div_two, Nat.and_div_two, Nat.and_div_two, Nat.and_div_two, xor2, xor2, and2, and2, and2, gMaj]
    congr 1
    rcases Nat.mod_two_eq_zero_or_one x with h1 | h1 <;> rcases Nat.mod_two_eq_zero_or_one y with h2 | h2 <;> rcases Nat.mod_two_eq_zero_or_one z with h3 | h3 <;> simp [h1, h2, h3]
theorem w64n {n : Int} (h0 : -9223372036854775808 ≤ n) (h1 : n ≤ 9223372036854775807) : wrap64 n = n := by
  rw [wrap64]
  omega
theorem half (x : Nat) (h : x < 4294967296) : wrap64 (Int.tdiv (x : Int) 2) = ((x / 2 : Nat) : Int) := by
  rw [Int.tdiv_eq_ediv_of_nonneg (by omega), w64n (by omega) (by omega)]
  omega
theorem tm2 (x : Nat) : Int.tmod (x : Int) 2 = ((x % 2 : Nat) : Int) := by
  rw [Int.tmod_eq_emod_of_nonneg (by omega)]
  omega
theorem add_digit (out p d : Nat) (ho : out < p) (hp : p ≤ 4294967296) (hd : d ≤ 1) : wrap64 ((out : Int) + wrap64 ((p : Int) * (d : Int))) = ((out + p * d : Nat) : Int) := by
  have hpd : p * d ≤ 4294967296 := Nat.le_trans (Nat.mul_le_mul_left p hd) (by omega)
  rw [← Int.natCast_mul, w64n (n := ((p * d : Nat) : Int)) (by omega) (by omega), w64n (by omega) (by omega)]
  omega
theorem pow_bound {p m : Nat} (h : p * 2 ^ m = 4294967296) : p ≤ 4294967296 := by
  have := Nat.le_mul_of_pos_right p (Nat.two_pow_pos m)
  omega
theorem step_out (out p d S : Nat) : out + p * d + 2 * p * S = out + p * (d + 2 * S) := by
  rw [Nat.mul_add, Nat.add_assoc, show 2 * p * S = p * (2 * S) by rw [Nat.mul_comm 2 p, Nat.mul_assoc]]
theorem out_lt {out p d : Nat} (ho : out < p) (hd : d ≤ 1) : out + p * d < 2 * p := by
  have := Nat.mul_le_mul_left p hd
  omega
theorem pow_next {p m : Nat} (h : p * 2 ^ (m + 1) = 4294967296) : 2 * p * 2 ^ m = 4294967296 := by
  rw [← h, Nat.pow_succ, Nat.mul_comm 2 p, Nat.mul_assoc, Nat.mul_comm 2 (2 ^ m)]
theorem xor_l0 (m : Nat) : ∀ (k i x y z out p : Nat), i + m = 32 → p * 2 ^ m = 4294967296 → out < p → x < 4294967296 → y < 4294967296 → z < 4294967296 →
    chandleryref03_xor.l0 (k + m + 1) x y z out p i = some ((out + p * S3 gXor m x y z : Nat) : Int) := by
  induction m with
  | zero =>
    intro k i x y z out p hi hp ho hx hy hz
    rw [chandleryref03_xor.l0, if_neg (by omega), S3, Nat.mul_zero, Nat.add_zero]
  | succ m ih =>
    intro k i x y z out p hi hp ho hx hy hz
    have hpl := pow_bound hp
    have hd : (x + y + z) % 2 ≤ 1 := by omega
    rw [show k + (m + 1) + 1 = (k + m + 1) + 1 by omega, chandleryref03_xor.l0, if_pos (by omega), half x hx, half y hy, half z hz,
      show wrap64 ((x : Int) + (y : Int)) = ((x + y : Nat) : Int) by rw [w64n (by omega) (by omega)]; omega,
      show wrap64 (((x + y : Nat) : Int) + (z : Int)) = ((x + y + z : Nat) : Int) by rw [w64n (by omega) (by omega)]; omega,
      tm2, add_digit out p _ ho hpl hd, show wrap64 (2 * (p : Int)) = ((2 * p : Nat) : Int) by rw [w64n (by omega) (by omega)]; omega,
      show wrap64 ((i : Int) + 1) = ((i + 1 : Nat) : Int) by rw [w64n (by omega) (by omega)]; omega,
      ih k (i + 1) (x / 2) (y / 2) (z / 2) _ (2 * p) (by omega) (pow_next hp) (out_lt ho hd) (by omega) (by omega) (by omega)]
    congr 2
    rw [step_out, S3, gXor]
    congr 3
    omega
theorem xor_f (k x y z : Nat) (hx : x < 4294967296) (hy : y < 4294967296) (hz : z < 4294967296) : chandleryref03_xor.f (k + 33) x y z = some ((((x ^^^ y) ^^^ z) : Nat) : Int) := by
  have h := xor_l0 32 k 0 x y z 0 1 rfl rfl (by omega) hx hy hz
  rw [S3_xor 32 x y z hx hy hz, Nat.zero_add, Nat.one_mul] at h
  exact h
theorem choose_l0 (m : Nat) : ∀ (k i x y z out p : Nat), i + m = 32 → p * 2 ^ m = 4294967296 → out < p → x < 4294967296 → y < 4294967296 → z < 4294967296 →
    chandleryref03_choose.l0 (k + m + 1) x y z out p i = some ((out + p * S3 gCh m x y z : Nat) : Int) := by
  induction m with
  | zero =>
    intro k i x y z out p hi hp ho hx hy hz
    rw [chandleryref03_choose.l0, if_neg (by omega), S3, Nat.mul_zero, Nat.add_zero]
  | succ m ih =>
    intro k i x y z out p hi hp ho hx hy hz
    have hpl := pow_bound hp
    rw [show k + (m + 1) + 1 = (k + m + 1) + 1 by omega, chandleryref03_choose.l0, if_pos (by omega), half x hx, half y hy, half z hz, tm2, tm2, tm2,
      show wrap64 (2 * (p : Int)) = ((2 * p : Nat) : Int) by rw [w64n (by omega) (by omega)]; omega,
      show wrap64 ((i : Int) + 1) = ((i + 1 : Nat) : Int) by rw [w64n (by omega) (by omega)]; omega]
    by_cases h1 : x % 2 = 1
    · have hd : y % 2 ≤ 1 := by omega
      rw [if_pos (by omega), add_digit out p _ ho hpl hd, ih k (i + 1) (x / 2) (y / 2) (z / 2) _ (2 * p) (by omega) (pow_next hp) (out_lt ho hd) (by omega) (by omega) (by omega)]
      congr 2
      rw [step_out, S3, gCh, if_pos h1]
    · have hd : z % 2 ≤ 1 := by omega
      rw [if_neg (by omega), add_digit out p _ ho hpl hd, ih k (i + 1) (x / 2) (y / 2) (z / 2) _ (2 * p) (by omega) (pow_next hp) (out_lt ho hd) (by omega) (by omega) (by omega)]
      congr 2
      rw [step_out, S3, gCh, if_neg h1]
theorem choose_f (k x y z : Nat) (hx : x < 4294967296) (hy : y < 4294967296) (hz : z < 4294967296) : chandleryref03_choose.f (k + 33) x y z = some ((((x &&& y) ^^^ ((4294967295 ^^^ x) &&& z)) : Nat) : Int) := by
  have h := choose_l0 32 k 0 x y z 0 1 rfl rfl (by omega) hx hy hz
  rw [S3_ch 32 x y z hx hy hz, Nat.zero_add, Nat.one_mul] at h
  exact h
theorem most_l0 (m : Nat) : ∀ (k i x y z out p : Nat), i + m = 32 → p * 2 ^ m = 4294967296 → out < p → x < 4294967296 → y < 4294967296 → z < 4294967296 →
    chandleryref03_most.l0 (k + m + 1) x y z out p i = some ((out + p * S3 gMaj m x y z : Nat) : Int) := by
  induction m with
  | zero =>
    intro k i x y z out p hi hp ho hx hy hz
    rw [chandleryref03_most.l0, if_neg (by omega), S3, Nat.mul_zero, Nat.add_zero]
  | succ m ih =>
    intro k i x y z out p hi hp ho hx hy hz
    have hpl := pow_bound hp
    have hd : (x % 2 + y % 2 + z % 2) / 2 ≤ 1 := by omega
    rw [show k + (m + 1) + 1 = (k + m + 1) + 1 by omega, chandleryref03_most.l0, if_pos (by omega), half x hx, half y hy, half z hz, tm2, tm2, tm2,
      show wrap64 (((x % 2 : Nat) : Int) + ((y % 2 : Nat) : Int)) = ((x % 2 + y % 2 : Nat) : Int) by rw [w64n (by omega) (by omega)]; omega,
      show wrap64 (((x % 2 + y % 2 : Nat) : Int) + ((z % 2 : Nat) : Int)) = ((x % 2 + y % 2 + z % 2 : Nat) : Int) by rw [w64n (by omega) (by omega)]; omega,
      half _ (by omega), add_digit out p _ ho hpl hd, show wrap64 (2 * (p : Int)) = ((2 * p : Nat) : Int) by rw [w64n (by omega) (by omega)]; omega,
      show wrap64 ((i : Int) + 1) = ((i + 1 : Nat) : Int) by rw [w64n (by omega) (by omega)]; omega,
      ih k (i + 1) (x / 2) (y / 2) (z / 2) _ (2 * p) (by omega) (pow_next hp) (out_lt ho hd) (by omega) (by omega) (by omega)]
    congr 2
    rw [step_out, S3, gMaj]
theorem most_f (k x y z : Nat) (hx : x < 4294967296) (hy : y < 4294967296) (hz : z < 4294967296) : chandleryref03_most.f (k + 33) x y z = some (((((x &&& y) ^^^ (x &&& z)) ^^^ (y &&& z)) : Nat) : Int) := by
  have h := most_l0 32 k 0 x y z 0 1 rfl rfl (by omega) hx hy hz
  rw [S3_maj 32 x y z hx hy hz, Nat.zero_add, Nat.one_mul] at h
  exact h
theorem power_f (n : Nat) (h : n ≤ 32) : chandleryref03_power.f 40 (n : Int) = some ((2 ^ n : Nat) : Int) := by
  have : ∀ n : Fin 33, chandleryref03_power.f 40 (n.val : Int) = some ((2 ^ n.val : Nat) : Int) := by decide +kernel
  exact this ⟨n, by omega⟩
theorem rot_f (x n : Nat) (hx : x < 4294967296) (h0 : 0 < n) (h1 : n < 32) : chandleryref03_rot.f 40 (x : Int) (n : Int) = some (rotr x n) := by
  have hq : 0 < 2 ^ n := Nat.two_pow_pos n
  have hs : wrap64 (32 - (n : Int)) = ((32 - n : Nat) : Int) := by rw [w64n (by omega) (by omega)]; omega
  have hne : ¬ ((2 ^ n : Nat) : Int) = 0 := by omega
  have hm : x % 2 ^ n < 2 ^ n := Nat.mod_lt _ hq
  have hpq : 2 ^ n * 2 ^ (32 - n) = 4294967296 := by rw [← Nat.pow_add, show n + (32 - n) = 32 by omega]
  have hb : x % 2 ^ n * 2 ^ (32 - n) ≤ 4294967296 := Nat.le_trans (Nat.mul_le_mul_right _ (Nat.le_of_lt hm)) (by omega)
  have hd : x / 2 ^ n < 2 ^ (32 - n) := by
    rw [Nat.div_lt_iff_lt_mul hq, Nat.mul_comm]
    omega
  have hle : 2 ^ (32 - n) ≤ 2 ^ 32 := Nat.pow_le_pow_right (by decide) (by omega)
  have ht : Int.tdiv (x : Int) ((2 ^ n : Nat) : Int) = ((x / 2 ^ n : Nat) : Int) := by rw [Int.tdiv_eq_ediv_of_nonneg (by omega)]; rfl
  have hu : Int.tmod (x : Int) ((2 ^ n : Nat) : Int) = ((x % 2 ^ n : Nat) : Int) := by rw [Int.tmod_eq_emod_of_nonneg (by omega)]; rfl
  rw [chandleryref03_rot.f, power_f n (by omega), hs, power_f (32 - n) (by omega)]
  simp only [Option.bind_some]
  rw [if_neg hne, if_neg hne, ht, hu, ← Int.natCast_mul]
  have hor : x * 2 ^ (32 - n) % 4294967296 = x % 2 ^ n * 2 ^ (32 - n) := by
    rw [← hpq, Nat.mul_comm (2 ^ n), Nat.mul_comm x, Nat.mul_mod_mul_left, Nat.mul_comm]
  have hr : rotr (x : Int) (n : Int) = ((x % 2 ^ n * 2 ^ (32 - n) + x / 2 ^ n : Nat) : Int) := by
    unfold rotr
    rw [show (32 - (n : Int)).toNat = 32 - n by omega, Int.toNat_natCast, IntKind.wrap_u32, show (x : Int) * 2 ^ (32 - n) % 4294967296 = ((x * 2 ^ (32 - n) % 4294967296 : Nat) : Int) by rw [Int.natCast_emod, Int.natCast_mul, Int.natCast_pow]; rfl, hor,
      show (x : Int) / 2 ^ n = ((x / 2 ^ n : Nat) : Int) by rw [Int.natCast_ediv, Int.natCast_pow]; rfl, or32 _ _ (by omega) (by omega), Nat.mul_comm (x % 2 ^ n), ← Nat.two_pow_add_eq_or_of_lt hd]
  have hlt : x / 2 ^ n ≤ x := Nat.div_le_self _ _
  rw [hr]
  generalize x % 2 ^ n * 2 ^ (32 - n) = u at *
  generalize x / 2 ^ n = v at *
  rw [w64n (n := (u : Int)) (by omega) (by omega), w64n (n := (v : Int)) (by omega) (by omega), w64n (by omega) (by omega)]
  congr 1
  omega
end Go.Proofs.Ytffcegbcjkhnoaa.PC
