/- The contracts of bits.RotateLeft32 at a negative count and of the closure of sha256.mix: they give the turned words and leave the world as it is. -/
import Derived.Test.YtffcegbcjkhnoaaC0
namespace Go.Proofs.Ytffcegbcjkhnoaa.PC
open Go.RowKit Go.Proofs.YtffcegbcjkhnoaaW.PrintWords Go.Proofs.YtffcegbcjkhnoaaW.PrintLast Go.Proofs.YtffcegbcjkhnoaaW.PrintMore
set_option linter.unusedVariables false
set_option linter.unusedSimpArgs false
/-- A word turned n digits down. -/
def rotr (x n : Int) : Int := Go.bits .or .u32 (IntKind.u32.wrap (x * 2 ^ (32 - n).toNat)) (x / 2 ^ n.toNat)
/-- Three of them, unlike. -/
def tri (x a b c : Int) : Int := Go.bits .xor .u32 (Go.bits .xor .u32 (rotr x a) (rotr x b)) (rotr x c)
theorem wrap_u64_mod (n : Int) : IntKind.u64.wrap n = n % 18446744073709551616 := by simp [IntKind.wrap, IntKind.bits, IntKind.signed]
theorem count31 (n : Int) (h1 : 1 ≤ n) (h2 : n ≤ 31) : Go.bits .and .u64 (IntKind.u64.wrap (-n)) 31 = 32 - n := by
  have e : ((31 : Int)) = 2 ^ 5 - 1 := by decide
  rw [e, bits_mask .u64 64 (by decide) (fun m a b => by rw [wrap_u64_mod]; simp at b; omega) 5 (by decide) _ (by rw [wrap_u64_mod]; omega) (by rw [wrap_u64_mod]; simp; omega), wrap_u64_mod]
  omega
theorem ret_u32 {a b : Int} (h : a = b) : Ending.returned (.int .u32 a) = Ending.returned (.int .u32 b) := by rw [h]
theorem rot_calls (x n : Int) (h1 : 1 ≤ n) (h2 : n ≤ 31) (w : World) :
    Calls Try.prog 75 #[.int .u32 x, .int .i64 (-n)] w fun e w' => e = .returned (.int .u32 (rotr x n)) ∧ w' = w := by
  have hc := count31 n h1 h2
  have s1 : Op.shift BinOp.shl IntKind.u32 x IntKind.u64 (32 - n) = pure (.int .u32 (IntKind.u32.wrap (x * 2 ^ (32 - n).toNat))) := by
    have e : min (32 - n).toNat IntKind.u32.bits = (32 - n).toNat := by simp only [IntKind.bits]; omega
    rw [shift_shl_any _ _ _ _ (by omega), e]
  have s2 : Op.shift BinOp.shr IntKind.u32 x IntKind.u64 n = pure (.int .u32 (x / 2 ^ n.toNat)) := by
    have e : min n.toNat IntKind.u32.bits = n.toNat := by simp only [IntKind.bits]; omega
    rw [shift_shr_any _ _ _ _ (by omega), e]
  have s3 : (32 : Int) - (32 - n) = n := by omega
  have s4 : IntKind.u64.wrap (32 - (32 - n)) = n := by rw [s3, wrap_u64_mod]; omega
  go_enter Try.func75, Try.ntmps75
  go_wp2
  go_ret
  exact ⟨ret_u32 rfl, rfl⟩
theorem neg_i64 (n : Int) (h1 : 1 ≤ n) (h2 : n ≤ 31) : IntKind.i64.wrap (-n) = -n := by rw [IntKind.wrap_i64]; omega
theorem turns_calls (x a b c : Int) (a1 : 1 ≤ a) (a2 : a ≤ 31) (b1 : 1 ≤ b) (b2 : b ≤ 31) (c1 : 1 ≤ c) (c2 : c ≤ 31) (w : World) :
    Calls Try.prog 76 #[.int .u32 x, .int .i64 a, .int .i64 b, .int .i64 c] w fun e w' => e = .returned (.int .u32 (tri x a b c)) ∧ w' = w := by
  go_enter Try.func76, Try.ntmps76
  go_wp2_with fail
  refine (rot_calls x a a1 a2 w).mono ?_
  rintro e w' ⟨rfl, rfl⟩
  go_wp2_with fail
  refine (rot_calls x b b1 b2 _).mono ?_
  rintro e w' ⟨rfl, rfl⟩
  go_wp2_with fail
  refine (rot_calls x c c1 c2 _).mono ?_
  rintro e w' ⟨rfl, rfl⟩
  go_wp2_with fail
  go_ret
  exact ⟨ret_u32 rfl, rfl⟩
end Go.Proofs.Ytffcegbcjkhnoaa.PC
