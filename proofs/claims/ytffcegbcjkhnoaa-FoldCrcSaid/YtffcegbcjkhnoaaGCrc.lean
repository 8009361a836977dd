/- The contracts of fold.step and fold.Crc. -/
import Derived.Test.YtffcegbcjkhnoaaC0
import Derived.WalkMore
import Derived.ScopeJumps
namespace Go.Proofs.Ytffcegbcjkhnoaa.PC
open Go.RowKit Go.Proofs.YtffcegbcjkhnoaaW.PrintWords Go.Proofs.YtffcegbcjkhnoaaW.PrintLast Go.Proofs.YtffcegbcjkhnoaaW.PrintMore
attribute [local go_sem] max2_int min2_int max_two min_two max_three min_three max_four min_four
set_option linter.unusedVariables false
set_option linter.unusedSimpArgs false
/-- One turn of a sum. -/
def turn1 (s : Int) : Int := Go.bits .xor .u32 (s / 2) (Go.bits .and .u32 3988292384 (-(Go.bits .and .u32 s 1) % 4294967296))
def turnN : Nat → Int → Int
  | 0, s => s
  | n + 1, s => turnN n (turn1 s)
def fold_step.f (a0 : Int) (a1 : Int) : Option Int := some (turnN 8 (Go.bits .xor .u32 a0 (a1 % 4294967296)))
set_option maxRecDepth 100000 in
theorem fold_step.calls (a0 : Int) (a1 : Int) (r : Int) (w : World) (h : fold_step.f a0 a1 = some r) :
    Calls Try.prog 70 #[.int .u32 a0, .int .u8 a1] w fun e w' => e = .returned (.int .u32 r) ∧ Drawn0 w w' := by
  cases h
  go_enter Try.func70, Try.ntmps70
  go_wp2
  refine wp_scope_jumps 0 (fun a' w' => w' = w ∧ ∃ (m : Nat) (s : Int) (u6 u7 u8 u9 u10 u11 u12 u13 u14 u15 u16 u17 u18 u19 u20 u21 u22 : Value), a' = { tmps := #[.int .u32 s, .int .u8 a1, undef, undef, .int .u32 0, .int .i64 ((m : Int) + 1), u6, u7, u8, u9, u10, u11, u12, u13, u14, u15, u16, u17, u18, u19, u20, u21, u22, undef], defers := [] } ∧ turnN (m + 1) s = turnN 8 (Go.bits .xor .u32 a0 (a1 % 4294967296)) ∧ m ≤ 100) (fun a' _ => (intOf (a'.tmps.getD 5 undef)).toNat) rfl ?_ ?_
  · go_wp2
    go_step3
    go_wp2
    go_step3
    exact ⟨rfl, rfl, 6, turn1 (Go.bits .xor .u32 a0 (a1 % 4294967296)), _, _, _, _, _, _, _, _, _, _, _, _, _, _, _, _, _, rfl, rfl, by omega⟩
  · rintro a' w' ⟨rfl, m, s, u6, u7, u8, u9, u10, u11, u12, u13, u14, u15, u16, u17, u18, u19, u20, u21, u22, rfl, hs, hm⟩
    go_wp2
    · rename_i hpos _
      go_step3
      obtain ⟨j, rfl⟩ : ∃ j, m = j + 1 := ⟨m - 1, by omega⟩
      refine ⟨rfl, ⟨rfl, j, turn1 s, _, _, _, _, _, _, _, _, _, _, _, _, _, _, _, _, _, rfl, ?_, by omega⟩, ?_⟩
      · rw [← hs]
        rfl
      · simp [intOf]
        omega
    · rename_i hneg
      simp only [Exit.jump]
      go_ret
      obtain rfl : m = 0 := by omega
      rw [← hs]
      exact ⟨rfl, 0, rfl⟩
/-! ### fold_Crc: function 50 -/
def fold_Crc.l0 : Nat → Int → List Int → Int → Int → Option (Int)
  | 0, _, _, _, _ => none
  | k + 1, x3, x6, x7, x8 => if x8 < x7 then (if 0 ≤ x8 then (if x8 < (x6.length : Int) then ((fold_step.f x3 (rd x6 x8)).bind fun t388 => (fold_Crc.l0 k t388 x6 x7 (wrap64 (x8 + 1)))) else (none)) else (none)) else (some (wrap64 (Go.bits .xor .u32 IntKind.u32.max x3)))
def fold_Crc.f (k : Nat) (l0 : List Int) : Option (Int) := fold_Crc.l0 k 4294967295 l0 (l0.length : Int) 0
theorem fold_Crc.mono_l : ∀ k, (∀ y0 y1 y2 y3, LeO (fold_Crc.l0 k y0 y1 y2 y3) (fold_Crc.l0 (k + 1) y0 y1 y2 y3))
  | 0 => fun _ _ _ _ r h => by simp [fold_Crc.l0] at h
  | k + 1 => by
    have ih0 := fold_Crc.mono_l k
    · intro y0 y1 y2 y3
      unfold fold_Crc.l0
      repeat' first
      | (with_reducible exact ih0 _ _ _ _)
      | (with_reducible exact LeO.refl _)
      | (with_reducible exact LeO.none _)
      | (with_reducible refine LeO.ite ?_ ?_)
      | (with_reducible refine LeO.bind ?_ (fun _ => ?_))
      | exact ih0 _ _ _ _
      | exact LeO.none _
      | refine LeO.ite ?_ ?_
      | refine LeO.bind ?_ (fun _ => ?_)
theorem fold_Crc.mono : ∀ a0 k, LeO (fold_Crc.f k a0) (fold_Crc.f (k + 1) a0) := by
  intro a0 k
  have ih0 := fold_Crc.mono_l k
  unfold fold_Crc.f
  repeat' first
      | (with_reducible exact ih0 _ _ _ _)
      | (with_reducible exact LeO.refl _)
      | (with_reducible exact LeO.none _)
      | (with_reducible refine LeO.ite ?_ ?_)
      | (with_reducible refine LeO.bind ?_ (fun _ => ?_))
      | exact ih0 _ _ _ _
      | exact LeO.none _
      | refine LeO.ite ?_ ?_
      | refine LeO.bind ?_ (fun _ => ?_)
set_option maxHeartbeats 8000000 in
set_option maxRecDepth 100000 in
theorem fold_Crc.calls (k : Nat) (A0 : Option Addr) (c0 : Nat) (l0 : List Int) (r : Int) (w : World) (hr0 : Kd.C (Kd.int .u8) w A0 l0.length l0) (hc0 : l0.length ≤ c0) (h : fold_Crc.f k l0 = some r) :
    Calls Try.prog 50 #[.slice A0 l0.length c0] w fun e w' => e = .returned (.int .i64 r) ∧ Drawn0 w w' := by
  have HR0 := Aside0.mk hr0
  have HC0 := Aside0.mk hc0
  clear hr0 hc0
  have H : (fold_Crc.l0 k 4294967295 l0 (l0.length : Int) 0) = some r := h
  clear h
  have H' := Aside0.mk H
  clear H
  go_enter Try.func50, Try.ntmps50
  go_wp2
  go_loopg [3, 8] k (fun kq v3 v8 w' => ∃ (x3_1 : Int) (x8_1 : Int), v3 = .int .u32 x3_1 ∧ v8 = .int .i64 x8_1 ∧ Aside0 (fold_Crc.l0 kq x3_1 l0 (l0.length : Int) x8_1 = some r) ∧ Aside0 (kq ≤ k) ∧ Drawn0 w w')
  case atStart => exact ⟨(4294967295), (0), (by first | rfl | (simp; done) | (simp [*]; done)), (by first | rfl | (simp; done) | (simp [*]; done)), H', ⟨Nat.le_refl _⟩, by repeat (first | exact Drawn0.refl _ | apply Drawn0.step)⟩
  case round =>
    clear H'
    obtain ⟨x3_1, x8_1, rfl, rfl, HA, HK1, ⟨m1, rfl⟩⟩ := hrel
    cases gk with
    | zero => exact absurd HA.out (by simp [fold_Crc.l0])
    | succ k1 =>
      have H := HA.out
      clear HA
      simp only [fold_Crc.l0] at H
      by_cases c2 : x8_1 < (l0.length : Int)
      · rw [if_pos c2] at H
        have c2b0 : decide (x8_1 < (l0.length : Int)) = true := decide_eq_true c2
        clear c2
        by_cases c3 : 0 ≤ x8_1
        · rw [if_pos c3] at H
          have c3b0 : decide (0 ≤ x8_1) = true := decide_eq_true c3
          clear c3
          by_cases c4 : x8_1 < (l0.length : Int)
          · rw [if_pos c4] at H
            have c4b0 : decide (x8_1 < (l0.length : Int)) = true := decide_eq_true c4
            clear c4
            replace H := Option.bind_eq_some_iff.mp H
            obtain ⟨t388, A50, H⟩ := H
            replace H : (fold_Crc.l0 k1 t388 l0 (l0.length : Int) (wrap64 (x8_1 + 1))) = some r := H
            have A5 := Aside0.mk A50
            clear A50
            have H' := Aside0.mk H
            clear H
            have p387 : 0 ≤ (x8_1 : Int) := of_decide_eq_true (by first | (with_reducible assumption) | assumption)
            have q387 : x8_1 < (l0.length : Int) := of_decide_eq_true (by first | (with_reducible assumption) | assumption)
            obtain ⟨ad387, e387, hx387_0⟩ := Kd.at_int HR0.out x8_1 p387 q387
            cases e387
            replace p387 := eq_true p387
            replace q387 := eq_true q387
            go_wp2_with (first | ((with_reducible refine gate_callee (f := 70) rfl ?_); refine goesL_ (some 14) rfl rfl Try.func70 (by kernel_rfl) rfl #[.int .u32 x3_1, .int .u8 (rd l0 x8_1)] rfl (by (try simp only [List.map_toArray, List.map_cons, List.map_nil]); first | done | rfl | (simp only [List.length_drop, List.length_take]; rfl)) ?_; (with_reducible refine (fold_step.calls x3_1 (rd l0 x8_1) t388 _ A5.out).mono ?_); rintro e w' ⟨rfl, ⟨nd, rfl⟩⟩; refine ⟨_, rfl, ?_⟩))
            go_roundg k1
            case measure => have := HK1.out; omega
            case rel => exact ⟨(t388), (wrap64 (x8_1 + 1)), (by first | rfl | (simp; done) | (simp [*]; done)), (by first | rfl | (simp; done) | (simp [*]; done)), H', ⟨by have := HK1.out; omega⟩, by repeat (first | exact Drawn0.refl _ | apply Drawn0.step)⟩
          · rw [if_neg c4] at H
            exact absurd H (by simp)
        · rw [if_neg c3] at H
          exact absurd H (by simp)
      · rw [if_neg c2] at H
        have c2b0 : decide (x8_1 < (l0.length : Int)) = false := decide_eq_false c2
        clear c2
        obtain rfl := Option.some.inj H
        go_wp2
        go_ret
        exact ⟨by first | rfl | (simp; done) | (simp [*]; done), by repeat (first | exact Drawn0.refl _ | apply Drawn0.step)⟩
end Go.Proofs.Ytffcegbcjkhnoaa.PC
