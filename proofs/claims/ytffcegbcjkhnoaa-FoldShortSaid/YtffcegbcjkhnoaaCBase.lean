import Derived.Test.YtffcegbcjkhnoaaC0
namespace Go.Proofs.Ytffcegbcjkhnoaa.PC
open Go.RowKit Go.Proofs.YtffcegbcjkhnoaaW.PrintWords Go.Proofs.YtffcegbcjkhnoaaW.PrintLast Go.Proofs.YtffcegbcjkhnoaaW.PrintMore
attribute [local go_sem] max2_int min2_int max_two min_two max_three min_three max_four min_four
set_option linter.unusedVariables false
set_option linter.unusedSimpArgs false

/-! ### base_size: function 56 -/
def base_size.f (a0 : Int) : Option (Int) := some (wrap64 (Int.tdiv (wrap64 ((wrap64 ((wrap64 (8 * a0)) + 5)) - 1)) 5))
set_option maxHeartbeats 8000000 in
set_option maxRecDepth 100000 in
theorem base_size.calls (a0 : Int) (r : Int) (w : World) (h : base_size.f a0 = some r) :
    Calls Try.prog 56 #[.int .i64 a0] w fun e w' => e = .returned (.int .i64 r) ∧ Drawn0 w w' := by
  have H : (some (wrap64 (Int.tdiv (wrap64 ((wrap64 ((wrap64 (8 * a0)) + 5)) - 1)) 5))) = some r := h
  clear h
  obtain rfl := Option.some.inj H
  go_enter Try.func56, Try.ntmps56
  go_wp2
  go_ret
  exact ⟨by first | rfl | (simp; done) | (simp [*]; done), by repeat (first | exact Drawn0.refl _ | apply Drawn0.step)⟩

/-! ### base_Encode: function 55 -/
def base_Encode.l0 : Nat → List Int → Int → List Int → Int → Int → Option (ByteArray)
  | 0, _, _, _, _, _ => none
  | k + 1, x0, x3, x4, x13, x14 => if x14 < x13 then (if 0 ≤ (wrap64 (Int.tdiv (wrap64 (5 * x14)) 8)) then (if (wrap64 (Int.tdiv (wrap64 (5 * x14)) 8)) < (x0.length : Int) then (if 0 ≤ (Int.tmod (wrap64 (5 * x14)) 8) then (if (wrap64 ((wrap64 (Int.tdiv (wrap64 (5 * x14)) 8)) + 1)) < (x0.length : Int) then (if 0 ≤ (wrap64 ((wrap64 (Int.tdiv (wrap64 (5 * x14)) 8)) + 1)) then (if 0 ≤ (wrap64 (8 - (Int.tmod (wrap64 (5 * x14)) 8))) then (if 0 ≤ (Go.bits .and .i64 (Go.bits .or .i64 (shr .i64 (wrap64 (rd x0 (wrap64 (Int.tdiv (wrap64 (5 * x14)) 8)))) (Int.tmod (wrap64 (5 * x14)) 8)) (shl .i64 (wrap64 (rd x0 (wrap64 ((wrap64 (Int.tdiv (wrap64 (5 * x14)) 8)) + 1)))) (wrap64 (8 - (Int.tmod (wrap64 (5 * x14)) 8))))) 31) then (if (Go.bits .and .i64 (Go.bits .or .i64 (shr .i64 (wrap64 (rd x0 (wrap64 (Int.tdiv (wrap64 (5 * x14)) 8)))) (Int.tmod (wrap64 (5 * x14)) 8)) (shl .i64 (wrap64 (rd x0 (wrap64 ((wrap64 (Int.tdiv (wrap64 (5 * x14)) 8)) + 1)))) (wrap64 (8 - (Int.tmod (wrap64 (5 * x14)) 8))))) 31) < 32 then (if 0 ≤ (wrap64 ((wrap64 (x3 - 1)) - x14)) then (if (wrap64 ((wrap64 (x3 - 1)) - x14)) < (x4.length : Int) then (base_Encode.l0 k x0 x3 (x4.set ((wrap64 ((wrap64 (x3 - 1)) - x14)) : Int).toNat (bt (⟨#[48, 49, 50, 51, 52, 53, 54, 55, 56, 57, 97, 98, 99, 100, 102, 103, 104, 105, 106, 107, 108, 109, 110, 112, 113, 114, 115, 118, 119, 120, 121, 122]⟩ : ByteArray) (Go.bits .and .i64 (Go.bits .or .i64 (shr .i64 (wrap64 (rd x0 (wrap64 (Int.tdiv (wrap64 (5 * x14)) 8)))) (Int.tmod (wrap64 (5 * x14)) 8)) (shl .i64 (wrap64 (rd x0 (wrap64 ((wrap64 (Int.tdiv (wrap64 (5 * x14)) 8)) + 1)))) (wrap64 (8 - (Int.tmod (wrap64 (5 * x14)) 8))))) 31))) x13 (wrap64 (x14 + 1))) else (none)) else (none)) else (none)) else (none)) else (none)) else (none)) else (if 0 ≤ (Go.bits .and .i64 (shr .i64 (wrap64 (rd x0 (wrap64 (Int.tdiv (wrap64 (5 * x14)) 8)))) (Int.tmod (wrap64 (5 * x14)) 8)) 31) then (if (Go.bits .and .i64 (shr .i64 (wrap64 (rd x0 (wrap64 (Int.tdiv (wrap64 (5 * x14)) 8)))) (Int.tmod (wrap64 (5 * x14)) 8)) 31) < 32 then (if 0 ≤ (wrap64 ((wrap64 (x3 - 1)) - x14)) then (if (wrap64 ((wrap64 (x3 - 1)) - x14)) < (x4.length : Int) then (base_Encode.l0 k x0 x3 (x4.set ((wrap64 ((wrap64 (x3 - 1)) - x14)) : Int).toNat (bt (⟨#[48, 49, 50, 51, 52, 53, 54, 55, 56, 57, 97, 98, 99, 100, 102, 103, 104, 105, 106, 107, 108, 109, 110, 112, 113, 114, 115, 118, 119, 120, 121, 122]⟩ : ByteArray) (Go.bits .and .i64 (shr .i64 (wrap64 (rd x0 (wrap64 (Int.tdiv (wrap64 (5 * x14)) 8)))) (Int.tmod (wrap64 (5 * x14)) 8)) 31))) x13 (wrap64 (x14 + 1))) else (none)) else (none)) else (none)) else (none))) else (none)) else (none)) else (none)) else (some (strOfNums x4))
def base_Encode.f (k : Nat) (l0 : List Int) : Option (ByteArray) := (base_size.f (l0.length : Int)).bind fun t376 => (if 0 ≤ t376 then (if (t376 : Int).toNat ≤ 281474976710656 then (base_Encode.l0 k l0 t376 (List.replicate (t376 : Int).toNat 0) t376 0) else (none)) else (none))
theorem base_Encode.mono_l : ∀ k, (∀ y0 y1 y2 y3 y4, LeO (base_Encode.l0 k y0 y1 y2 y3 y4) (base_Encode.l0 (k + 1) y0 y1 y2 y3 y4))
  | 0 => fun _ _ _ _ _ r h => by simp [base_Encode.l0] at h
  | k + 1 => by
    have ih0 := base_Encode.mono_l k
    · intro y0 y1 y2 y3 y4
      unfold base_Encode.l0
      repeat' first
      | (with_reducible exact ih0 _ _ _ _ _)
      | (with_reducible exact LeO.refl _)
      | (with_reducible exact LeO.none _)
      | (with_reducible refine LeO.ite ?_ ?_)
      | (with_reducible refine LeO.bind ?_ (fun _ => ?_))
      | exact ih0 _ _ _ _ _
      | exact LeO.none _
      | refine LeO.ite ?_ ?_
      | refine LeO.bind ?_ (fun _ => ?_)
theorem base_Encode.mono : ∀ a0 k, LeO (base_Encode.f k a0) (base_Encode.f (k + 1) a0) := by
  intro a0 k
  have ih0 := base_Encode.mono_l k
  unfold base_Encode.f
  repeat' first
      | (with_reducible exact ih0 _ _ _ _ _)
      | (with_reducible exact LeO.refl _)
      | (with_reducible exact LeO.none _)
      | (with_reducible refine LeO.ite ?_ ?_)
      | (with_reducible refine LeO.bind ?_ (fun _ => ?_))
      | exact ih0 _ _ _ _ _
      | exact LeO.none _
      | refine LeO.ite ?_ ?_
      | refine LeO.bind ?_ (fun _ => ?_)
set_option maxHeartbeats 8000000 in
set_option maxRecDepth 100000 in
theorem base_Encode.calls (k : Nat) (A0 : Option Addr) (c0 : Nat) (l0 : List Int) (r : ByteArray) (w : World) (hr0 : Kd.C (Kd.int .u8) w A0 l0.length l0) (hc0 : l0.length ≤ c0) (h : base_Encode.f k l0 = some r) :
    Calls Try.prog 55 #[.slice A0 l0.length c0] w fun e w' => e = .returned (.string r) ∧ Below w.heap.size w w' := by
  have HR0 := Aside0.mk hr0
  have HC0 := Aside0.mk hc0
  clear hr0 hc0
  have HB := Aside0.mk (Below.refl w.heap.size w)
  have H : ((base_size.f (l0.length : Int)).bind fun t376 => (if 0 ≤ t376 then (if (t376 : Int).toNat ≤ 281474976710656 then (base_Encode.l0 k l0 t376 (List.replicate (t376 : Int).toNat 0) t376 0) else (none)) else (none))) = some r := h
  clear h
  replace H := Option.bind_eq_some_iff.mp H
  obtain ⟨t376, A20, H⟩ := H
  replace H : (if 0 ≤ t376 then (if (t376 : Int).toNat ≤ 281474976710656 then (base_Encode.l0 k l0 t376 (List.replicate (t376 : Int).toNat 0) t376 0) else (none)) else (none)) = some r := H
  have A2 := Aside0.mk A20
  clear A20
  by_cases c3 : 0 ≤ t376
  · rw [if_pos c3] at H
    have c3b0 := eq_true c3
    have c3b1 : decide (0 ≤ t376) = true := decide_eq_true c3
    clear c3
    by_cases c4 : (t376 : Int).toNat ≤ 281474976710656
    · rw [if_pos c4] at H
      have c4b0 := eq_true c4
      have c4b1 : decide ((t376 : Int).toNat ≤ 281474976710656) = true := decide_eq_true c4
      clear c4
      obtain ⟨y377, hy377⟩ : ∃ y_ : List Int, y_ = (List.replicate (t376 : Int).toNat 0) := ⟨_, rfl⟩
      replace H : (base_Encode.l0 k l0 t376 y377 t376 0) = some r := by first | (rw [hy377]; with_reducible exact H) | (have H2_ := (Option.bind_some _ _).symm.trans H; rw [hy377]; with_reducible exact H2_) | (have H2_ := (Option.bind_some _ _).symm.trans H; with_reducible exact H2_) | with_reducible exact H | (rw [hy377]; exact H) | exact H
      have Ny377 := Aside0.mk hy377
      clear hy377
      have H' := Aside0.mk H
      clear H
      go_enter Try.func55, Try.ntmps55
      go_wp2_with (first | ((with_reducible refine gate_callee (f := 56) rfl ?_); refine goesL_ (some 10) rfl rfl Try.func56 (by kernel_rfl) rfl #[.int .i64 (l0.length : Int)] rfl (by (try simp only [List.map_toArray, List.map_cons, List.map_nil]); first | done | rfl | (simp only [List.length_drop, List.length_take]; rfl)) ?_; (with_reducible refine (base_size.calls (l0.length : Int) t376 _ A2.out).mono ?_); rintro e w' ⟨rfl, ⟨nd, rfl⟩⟩; refine ⟨_, rfl, ?_⟩) | ((with_reducible refine gate_dst (N := 12) rfl ?_); refine Kd.R_make (Kd.int .u8) _ 5 rfl (N := 12) rfl 22 _ _ rfl t376 rfl rfl Try.underlying22 (.int .u8 0) 1 info5 rfl (by decide) (by omega) 0 (ok := fun _ => True) (okp := fun _ => True) rfl (fun _ hk => hk) trivial (of_decide_eq_true (by first | (with_reducible assumption) | assumption)) (Nat.le_trans (Nat.mul_le_mul_right _ (of_decide_eq_true (by first | (with_reducible assumption) | assumption) : t376.toNat ≤ 281474976710656)) (by omega)) (Below.refl _ _) (Nat.le_refl _) ?_; intro v378 w5 ho6 hb hg_ hnew_; clear hg_ hnew_; (first | rw [← Ny377.out] at ho6 | (simp only [Int.reduceToNat] at ho6; rw [← Ny377.out] at ho6)); have n0_ := Aside0.mk (Kd.R_lower ho6 (below_size (by repeat (first | (with_reducible first | exact HB.out | apply below_alloc | apply pw_below_drewN | apply below_drew1) | exact HB.out)))); have n1_ := Aside0.mk (below_step (by repeat (first | (with_reducible first | exact HB.out | apply below_alloc | apply pw_below_drewN | apply below_drew1) | exact HB.out)) hb); clear HB; have HO379 := n0_; have HB := n1_; clear n0_ n1_; clear hb ho6))
      go_loopg [14] k (fun kq v14 w' => ∃ (x4_1 : List Int) (x14_1 : Int), v14 = .int .i64 x14_1 ∧ Aside0 (base_Encode.l0 kq l0 t376 x4_1 t376 x14_1 = some r) ∧ Aside0 (kq ≤ k) ∧ Aside0 (Kd.R (Kd.int .u8) 5 w' w.heap.size (fun _ => True) v378 x4_1) ∧ Aside0 (Below w.heap.size w w'))
      case atStart => exact ⟨(y377), (0), (by first | rfl | (simp; done) | (simp [*]; done)), H', ⟨Nat.le_refl _⟩, ⟨by (with_reducible repeat (first | apply Kd.R_alloc | apply Kd.R_drewN | apply Kd.R_drew)); exact HO379.out⟩, ⟨by repeat (first | (with_reducible first | exact HB.out | apply below_alloc | apply pw_below_drewN | apply below_drew1) | exact HB.out)⟩⟩
      case round =>
        clear H'
        try clear p2
        try clear c3
        try clear c3b0
        try clear c3b1
        try clear c4
        try clear c4b0
        try clear c4b1
        try clear c5
        obtain ⟨x4_1, x14_1, rfl, HA, HK1, HO_4, HB⟩ := hrel
        cases gk with
        | zero => exact absurd HA.out (by simp [base_Encode.l0])
        | succ k1 =>
          have H := HA.out
          clear HA
          simp only [base_Encode.l0] at H
          by_cases c7 : x14_1 < t376
          · rw [if_pos c7] at H
            have c7b0 : decide (x14_1 < t376) = true := decide_eq_true c7
            clear c7
            obtain ⟨ji8, hji8⟩ : ∃ j_ : Int, (wrap64 (Int.tdiv (wrap64 (5 * x14_1)) 8)) = j_ := ⟨_, rfl⟩
            replace H : (if 0 ≤ (ji8) then (if (ji8) < (l0.length : Int) then (if 0 ≤ (Int.tmod (wrap64 (5 * x14_1)) 8) then (if (wrap64 ((ji8) + 1)) < (l0.length : Int) then (if 0 ≤ (wrap64 ((ji8) + 1)) then (if 0 ≤ (wrap64 (8 - (Int.tmod (wrap64 (5 * x14_1)) 8))) then (if 0 ≤ (Go.bits .and .i64 (Go.bits .or .i64 (shr .i64 (wrap64 (rd l0 (ji8))) (Int.tmod (wrap64 (5 * x14_1)) 8)) (shl .i64 (wrap64 (rd l0 (wrap64 ((ji8) + 1)))) (wrap64 (8 - (Int.tmod (wrap64 (5 * x14_1)) 8))))) 31) then (if (Go.bits .and .i64 (Go.bits .or .i64 (shr .i64 (wrap64 (rd l0 (ji8))) (Int.tmod (wrap64 (5 * x14_1)) 8)) (shl .i64 (wrap64 (rd l0 (wrap64 ((ji8) + 1)))) (wrap64 (8 - (Int.tmod (wrap64 (5 * x14_1)) 8))))) 31) < 32 then (if 0 ≤ (wrap64 ((wrap64 (t376 - 1)) - x14_1)) then (if (wrap64 ((wrap64 (t376 - 1)) - x14_1)) < (x4_1.length : Int) then (base_Encode.l0 k1 l0 t376 (x4_1.set ((wrap64 ((wrap64 (t376 - 1)) - x14_1)) : Int).toNat (bt (⟨#[48, 49, 50, 51, 52, 53, 54, 55, 56, 57, 97, 98, 99, 100, 102, 103, 104, 105, 106, 107, 108, 109, 110, 112, 113, 114, 115, 118, 119, 120, 121, 122]⟩ : ByteArray) (Go.bits .and .i64 (Go.bits .or .i64 (shr .i64 (wrap64 (rd l0 (ji8))) (Int.tmod (wrap64 (5 * x14_1)) 8)) (shl .i64 (wrap64 (rd l0 (wrap64 ((ji8) + 1)))) (wrap64 (8 - (Int.tmod (wrap64 (5 * x14_1)) 8))))) 31))) t376 (wrap64 (x14_1 + 1))) else (none)) else (none)) else (none)) else (none)) else (none)) else (none)) else (if 0 ≤ (Go.bits .and .i64 (shr .i64 (wrap64 (rd l0 (ji8))) (Int.tmod (wrap64 (5 * x14_1)) 8)) 31) then (if (Go.bits .and .i64 (shr .i64 (wrap64 (rd l0 (ji8))) (Int.tmod (wrap64 (5 * x14_1)) 8)) 31) < 32 then (if 0 ≤ (wrap64 ((wrap64 (t376 - 1)) - x14_1)) then (if (wrap64 ((wrap64 (t376 - 1)) - x14_1)) < (x4_1.length : Int) then (base_Encode.l0 k1 l0 t376 (x4_1.set ((wrap64 ((wrap64 (t376 - 1)) - x14_1)) : Int).toNat (bt (⟨#[48, 49, 50, 51, 52, 53, 54, 55, 56, 57, 97, 98, 99, 100, 102, 103, 104, 105, 106, 107, 108, 109, 110, 112, 113, 114, 115, 118, 119, 120, 121, 122]⟩ : ByteArray) (Go.bits .and .i64 (shr .i64 (wrap64 (rd l0 (ji8))) (Int.tmod (wrap64 (5 * x14_1)) 8)) 31))) t376 (wrap64 (x14_1 + 1))) else (none)) else (none)) else (none)) else (none))) else (none)) else (none)) else (none)) = some r := by first | (rw [hji8] at H; exact H) | (simp only [hji8] at H ⊢; exact H)
            have hji8w : (IntKind.i64.wrap (Int.tdiv (wrap64 (5 * x14_1)) 8)) = ji8 := (i64_w _).trans hji8
            by_cases c9 : 0 ≤ (ji8)
            · rw [if_pos c9] at H
              have c9b0 : decide (0 ≤ (ji8)) = true := decide_eq_true c9
              clear c9
              by_cases c10 : (ji8) < (l0.length : Int)
              · rw [if_pos c10] at H
                have c10b0 : decide ((ji8) < (l0.length : Int)) = true := decide_eq_true c10
                clear c10
                obtain ⟨ji11, hji11⟩ : ∃ j_ : Int, (Int.tmod (wrap64 (5 * x14_1)) 8) = j_ := ⟨_, rfl⟩
                replace H : (if 0 ≤ (ji11) then (if (wrap64 ((ji8) + 1)) < (l0.length : Int) then (if 0 ≤ (wrap64 ((ji8) + 1)) then (if 0 ≤ (wrap64 (8 - (ji11))) then (if 0 ≤ (Go.bits .and .i64 (Go.bits .or .i64 (shr .i64 (wrap64 (rd l0 (ji8))) (ji11)) (shl .i64 (wrap64 (rd l0 (wrap64 ((ji8) + 1)))) (wrap64 (8 - (ji11))))) 31) then (if (Go.bits .and .i64 (Go.bits .or .i64 (shr .i64 (wrap64 (rd l0 (ji8))) (ji11)) (shl .i64 (wrap64 (rd l0 (wrap64 ((ji8) + 1)))) (wrap64 (8 - (ji11))))) 31) < 32 then (if 0 ≤ (wrap64 ((wrap64 (t376 - 1)) - x14_1)) then (if (wrap64 ((wrap64 (t376 - 1)) - x14_1)) < (x4_1.length : Int) then (base_Encode.l0 k1 l0 t376 (x4_1.set ((wrap64 ((wrap64 (t376 - 1)) - x14_1)) : Int).toNat (bt (⟨#[48, 49, 50, 51, 52, 53, 54, 55, 56, 57, 97, 98, 99, 100, 102, 103, 104, 105, 106, 107, 108, 109, 110, 112, 113, 114, 115, 118, 119, 120, 121, 122]⟩ : ByteArray) (Go.bits .and .i64 (Go.bits .or .i64 (shr .i64 (wrap64 (rd l0 (ji8))) (ji11)) (shl .i64 (wrap64 (rd l0 (wrap64 ((ji8) + 1)))) (wrap64 (8 - (ji11))))) 31))) t376 (wrap64 (x14_1 + 1))) else (none)) else (none)) else (none)) else (none)) else (none)) else (none)) else (if 0 ≤ (Go.bits .and .i64 (shr .i64 (wrap64 (rd l0 (ji8))) (ji11)) 31) then (if (Go.bits .and .i64 (shr .i64 (wrap64 (rd l0 (ji8))) (ji11)) 31) < 32 then (if 0 ≤ (wrap64 ((wrap64 (t376 - 1)) - x14_1)) then (if (wrap64 ((wrap64 (t376 - 1)) - x14_1)) < (x4_1.length : Int) then (base_Encode.l0 k1 l0 t376 (x4_1.set ((wrap64 ((wrap64 (t376 - 1)) - x14_1)) : Int).toNat (bt (⟨#[48, 49, 50, 51, 52, 53, 54, 55, 56, 57, 97, 98, 99, 100, 102, 103, 104, 105, 106, 107, 108, 109, 110, 112, 113, 114, 115, 118, 119, 120, 121, 122]⟩ : ByteArray) (Go.bits .and .i64 (shr .i64 (wrap64 (rd l0 (ji8))) (ji11)) 31))) t376 (wrap64 (x14_1 + 1))) else (none)) else (none)) else (none)) else (none))) else (none)) = some r := by first | (rw [hji11] at H; exact H) | (simp only [hji11] at H ⊢; exact H)
                by_cases c12 : 0 ≤ (ji11)
                · rw [if_pos c12] at H
                  have c12b0 := eq_true c12
                  have c12b1 : decide (0 ≤ (ji11)) = true := decide_eq_true c12
                  clear c12
                  obtain ⟨ji13, hji13⟩ : ∃ j_ : Int, (shr .i64 (wrap64 (rd l0 (ji8))) (ji11)) = j_ := ⟨_, rfl⟩
                  replace H : (if (wrap64 ((ji8) + 1)) < (l0.length : Int) then (if 0 ≤ (wrap64 ((ji8) + 1)) then (if 0 ≤ (wrap64 (8 - (ji11))) then (if 0 ≤ (Go.bits .and .i64 (Go.bits .or .i64 (ji13) (shl .i64 (wrap64 (rd l0 (wrap64 ((ji8) + 1)))) (wrap64 (8 - (ji11))))) 31) then (if (Go.bits .and .i64 (Go.bits .or .i64 (ji13) (shl .i64 (wrap64 (rd l0 (wrap64 ((ji8) + 1)))) (wrap64 (8 - (ji11))))) 31) < 32 then (if 0 ≤ (wrap64 ((wrap64 (t376 - 1)) - x14_1)) then (if (wrap64 ((wrap64 (t376 - 1)) - x14_1)) < (x4_1.length : Int) then (base_Encode.l0 k1 l0 t376 (x4_1.set ((wrap64 ((wrap64 (t376 - 1)) - x14_1)) : Int).toNat (bt (⟨#[48, 49, 50, 51, 52, 53, 54, 55, 56, 57, 97, 98, 99, 100, 102, 103, 104, 105, 106, 107, 108, 109, 110, 112, 113, 114, 115, 118, 119, 120, 121, 122]⟩ : ByteArray) (Go.bits .and .i64 (Go.bits .or .i64 (ji13) (shl .i64 (wrap64 (rd l0 (wrap64 ((ji8) + 1)))) (wrap64 (8 - (ji11))))) 31))) t376 (wrap64 (x14_1 + 1))) else (none)) else (none)) else (none)) else (none)) else (none)) else (none)) else (if 0 ≤ (Go.bits .and .i64 (ji13) 31) then (if (Go.bits .and .i64 (ji13) 31) < 32 then (if 0 ≤ (wrap64 ((wrap64 (t376 - 1)) - x14_1)) then (if (wrap64 ((wrap64 (t376 - 1)) - x14_1)) < (x4_1.length : Int) then (base_Encode.l0 k1 l0 t376 (x4_1.set ((wrap64 ((wrap64 (t376 - 1)) - x14_1)) : Int).toNat (bt (⟨#[48, 49, 50, 51, 52, 53, 54, 55, 56, 57, 97, 98, 99, 100, 102, 103, 104, 105, 106, 107, 108, 109, 110, 112, 113, 114, 115, 118, 119, 120, 121, 122]⟩ : ByteArray) (Go.bits .and .i64 (ji13) 31))) t376 (wrap64 (x14_1 + 1))) else (none)) else (none)) else (none)) else (none))) = some r := by first | (rw [hji13] at H; exact H) | (simp only [hji13] at H ⊢; exact H)
                  have hji13_ : ((wrap64 (rd l0 (ji8))) / 2 ^ min (ji11).toNat 64) = ji13 := hji13
                  have hji13z : (ji11) ≤ 64 → ((wrap64 (rd l0 (ji8))) / 2 ^ (ji11).toNat) = ji13 := shr_small hji13
                  by_cases c14 : (wrap64 ((ji8) + 1)) < (l0.length : Int)
                  · rw [if_pos c14] at H
                    have c14b0 : decide ((wrap64 ((ji8) + 1)) < (l0.length : Int)) = true := decide_eq_true c14
                    clear c14
                    obtain ⟨ji15, hji15⟩ : ∃ j_ : Int, (wrap64 ((ji8) + 1)) = j_ := ⟨_, rfl⟩
                    replace H : (if 0 ≤ (ji15) then (if 0 ≤ (wrap64 (8 - (ji11))) then (if 0 ≤ (Go.bits .and .i64 (Go.bits .or .i64 (ji13) (shl .i64 (wrap64 (rd l0 (ji15))) (wrap64 (8 - (ji11))))) 31) then (if (Go.bits .and .i64 (Go.bits .or .i64 (ji13) (shl .i64 (wrap64 (rd l0 (ji15))) (wrap64 (8 - (ji11))))) 31) < 32 then (if 0 ≤ (wrap64 ((wrap64 (t376 - 1)) - x14_1)) then (if (wrap64 ((wrap64 (t376 - 1)) - x14_1)) < (x4_1.length : Int) then (base_Encode.l0 k1 l0 t376 (x4_1.set ((wrap64 ((wrap64 (t376 - 1)) - x14_1)) : Int).toNat (bt (⟨#[48, 49, 50, 51, 52, 53, 54, 55, 56, 57, 97, 98, 99, 100, 102, 103, 104, 105, 106, 107, 108, 109, 110, 112, 113, 114, 115, 118, 119, 120, 121, 122]⟩ : ByteArray) (Go.bits .and .i64 (Go.bits .or .i64 (ji13) (shl .i64 (wrap64 (rd l0 (ji15))) (wrap64 (8 - (ji11))))) 31))) t376 (wrap64 (x14_1 + 1))) else (none)) else (none)) else (none)) else (none)) else (none)) else (none)) = some r := by first | (rw [hji15] at H; exact H) | (simp only [hji15] at H ⊢; exact H)
                    (try rw [hji15] at c14b0)
                    have hji15w : (IntKind.i64.wrap ((ji8) + 1)) = ji15 := (i64_w _).trans hji15
                    by_cases c16 : 0 ≤ (ji15)
                    · rw [if_pos c16] at H
                      have c16b0 : decide (0 ≤ (ji15)) = true := decide_eq_true c16
                      clear c16
                      obtain ⟨ji17, hji17⟩ : ∃ j_ : Int, (wrap64 (8 - (ji11))) = j_ := ⟨_, rfl⟩
                      replace H : (if 0 ≤ (ji17) then (if 0 ≤ (Go.bits .and .i64 (Go.bits .or .i64 (ji13) (shl .i64 (wrap64 (rd l0 (ji15))) (ji17))) 31) then (if (Go.bits .and .i64 (Go.bits .or .i64 (ji13) (shl .i64 (wrap64 (rd l0 (ji15))) (ji17))) 31) < 32 then (if 0 ≤ (wrap64 ((wrap64 (t376 - 1)) - x14_1)) then (if (wrap64 ((wrap64 (t376 - 1)) - x14_1)) < (x4_1.length : Int) then (base_Encode.l0 k1 l0 t376 (x4_1.set ((wrap64 ((wrap64 (t376 - 1)) - x14_1)) : Int).toNat (bt (⟨#[48, 49, 50, 51, 52, 53, 54, 55, 56, 57, 97, 98, 99, 100, 102, 103, 104, 105, 106, 107, 108, 109, 110, 112, 113, 114, 115, 118, 119, 120, 121, 122]⟩ : ByteArray) (Go.bits .and .i64 (Go.bits .or .i64 (ji13) (shl .i64 (wrap64 (rd l0 (ji15))) (ji17))) 31))) t376 (wrap64 (x14_1 + 1))) else (none)) else (none)) else (none)) else (none)) else (none)) = some r := by first | (rw [hji17] at H; exact H) | (simp only [hji17] at H ⊢; exact H)
                      have hji17w : (IntKind.i64.wrap (8 - (ji11))) = ji17 := (i64_w _).trans hji17
                      by_cases c18 : 0 ≤ (ji17)
                      · rw [if_pos c18] at H
                        have c18b0 := eq_true c18
                        have c18b1 : decide (0 ≤ (ji17)) = true := decide_eq_true c18
                        clear c18
                        obtain ⟨ji19, hji19⟩ : ∃ j_ : Int, (shl .i64 (wrap64 (rd l0 (ji15))) (ji17)) = j_ := ⟨_, rfl⟩
                        replace H : (if 0 ≤ (Go.bits .and .i64 (Go.bits .or .i64 (ji13) (ji19)) 31) then (if (Go.bits .and .i64 (Go.bits .or .i64 (ji13) (ji19)) 31) < 32 then (if 0 ≤ (wrap64 ((wrap64 (t376 - 1)) - x14_1)) then (if (wrap64 ((wrap64 (t376 - 1)) - x14_1)) < (x4_1.length : Int) then (base_Encode.l0 k1 l0 t376 (x4_1.set ((wrap64 ((wrap64 (t376 - 1)) - x14_1)) : Int).toNat (bt (⟨#[48, 49, 50, 51, 52, 53, 54, 55, 56, 57, 97, 98, 99, 100, 102, 103, 104, 105, 106, 107, 108, 109, 110, 112, 113, 114, 115, 118, 119, 120, 121, 122]⟩ : ByteArray) (Go.bits .and .i64 (Go.bits .or .i64 (ji13) (ji19)) 31))) t376 (wrap64 (x14_1 + 1))) else (none)) else (none)) else (none)) else (none)) = some r := by first | (rw [hji19] at H; exact H) | (simp only [hji19] at H ⊢; exact H)
                        have hji19_ : (IntKind.i64.wrap ((wrap64 (rd l0 (ji15))) * 2 ^ min (ji17).toNat 64)) = ji19 := hji19
                        have hji19z : (ji17) ≤ 64 → (IntKind.i64.wrap ((wrap64 (rd l0 (ji15))) * 2 ^ (ji17).toNat)) = ji19 := shl_small hji19
                        have hji19y : (wrap64 ((wrap64 (rd l0 (ji15))) * 2 ^ min (ji17).toNat 64)) = ji19 := (i64_w _).symm.trans hji19_
                        have hji19x : (ji17) ≤ 64 → (wrap64 ((wrap64 (rd l0 (ji15))) * 2 ^ (ji17).toNat)) = ji19 := fun h_ => (i64_w _).symm.trans (hji19z h_)
                        by_cases c20 : 0 ≤ (Go.bits .and .i64 (Go.bits .or .i64 (ji13) (ji19)) 31)
                        · rw [if_pos c20] at H
                          have c20b0 : decide (0 ≤ (Go.bits .and .i64 (Go.bits .or .i64 (ji13) (ji19)) 31)) = true := decide_eq_true c20
                          clear c20
                          by_cases c21 : (Go.bits .and .i64 (Go.bits .or .i64 (ji13) (ji19)) 31) < 32
                          · rw [if_pos c21] at H
                            have c21b0 : decide ((Go.bits .and .i64 (Go.bits .or .i64 (ji13) (ji19)) 31) < 32) = true := decide_eq_true c21
                            clear c21
                            obtain ⟨ji23, hji23⟩ : ∃ j_ : Int, (wrap64 ((wrap64 (t376 - 1)) - x14_1)) = j_ := ⟨_, rfl⟩
                            replace H : (if 0 ≤ (ji23) then (if (ji23) < (x4_1.length : Int) then (base_Encode.l0 k1 l0 t376 (x4_1.set ((ji23) : Int).toNat (bt (⟨#[48, 49, 50, 51, 52, 53, 54, 55, 56, 57, 97, 98, 99, 100, 102, 103, 104, 105, 106, 107, 108, 109, 110, 112, 113, 114, 115, 118, 119, 120, 121, 122]⟩ : ByteArray) (Go.bits .and .i64 (Go.bits .or .i64 (ji13) (ji19)) 31))) t376 (wrap64 (x14_1 + 1))) else (none)) else (none)) = some r := by first | (rw [hji23] at H; exact H) | (simp only [hji23] at H ⊢; exact H)
                            have hji23w : (IntKind.i64.wrap ((wrap64 (t376 - 1)) - x14_1)) = ji23 := (i64_w _).trans hji23
                            by_cases c24 : 0 ≤ (ji23)
                            · rw [if_pos c24] at H
                              have c24b0 : decide (0 ≤ (ji23)) = true := decide_eq_true c24
                              clear c24
                              by_cases c25 : (ji23) < (x4_1.length : Int)
                              · rw [if_pos c25] at H
                                have c25b0 : decide ((ji23) < (x4_1.length : Int)) = true := decide_eq_true c25
                                clear c25
                                obtain ⟨y382, hy382⟩ : ∃ y_ : List Int, y_ = (x4_1.set ((ji23) : Int).toNat (bt (⟨#[48, 49, 50, 51, 52, 53, 54, 55, 56, 57, 97, 98, 99, 100, 102, 103, 104, 105, 106, 107, 108, 109, 110, 112, 113, 114, 115, 118, 119, 120, 121, 122]⟩ : ByteArray) (Go.bits .and .i64 (Go.bits .or .i64 (ji13) (ji19)) 31))) := ⟨_, rfl⟩
                                replace H : (base_Encode.l0 k1 l0 t376 y382 t376 (wrap64 (x14_1 + 1))) = some r := by first | (rw [hy382]; with_reducible exact H) | (have H2_ := (Option.bind_some _ _).symm.trans H; rw [hy382]; with_reducible exact H2_) | (have H2_ := (Option.bind_some _ _).symm.trans H; with_reducible exact H2_) | with_reducible exact H | (rw [hy382]; exact H) | exact H
                                have Ny382 := Aside0.mk hy382
                                clear hy382
                                have H' := Aside0.mk H
                                clear H
                                have p380 : 0 ≤ ((ji8) : Int) := of_decide_eq_true (by first | (with_reducible assumption) | assumption)
                                have q380 : (ji8) < (l0.length : Int) := of_decide_eq_true (by first | (with_reducible assumption) | assumption)
                                obtain ⟨ad380, e380, hx380_0⟩ := Kd.at_int HR0.out (ji8) p380 q380
                                cases e380
                                replace hx380_0 := (HB.out.cell (World.block_lt_of_cell? w _ hx380_0)).trans hx380_0
                                replace p380 := eq_true p380
                                replace q380 := eq_true q380
                                have p381 : 0 ≤ ((ji15) : Int) := of_decide_eq_true (by first | (with_reducible assumption) | assumption)
                                have q381 : (ji15) < (l0.length : Int) := of_decide_eq_true (by first | (with_reducible assumption) | assumption)
                                obtain ⟨ad381, e381, hx381_0⟩ := Kd.at_int HR0.out (ji15) p381 q381
                                obtain rfl : ad380 = ad381 := (by injection e381)
                                replace hx381_0 := (HB.out.cell (World.block_lt_of_cell? w _ hx381_0)).trans hx381_0
                                replace p381 := eq_true p381
                                replace q381 := eq_true q381
                                have p22 : 0 ≤ ((Go.bits .and .i64 (Go.bits .or .i64 (ji13) (ji19)) 31) : Int) := of_decide_eq_true (by first | (with_reducible assumption) | assumption)
                                have q22 : (Go.bits .and .i64 (Go.bits .or .i64 (ji13) (ji19)) 31) < (32 : Int) := of_decide_eq_true (by first | (with_reducible assumption) | assumption)
                                have hx22 := bt_at (⟨#[48, 49, 50, 51, 52, 53, 54, 55, 56, 57, 97, 98, 99, 100, 102, 103, 104, 105, 106, 107, 108, 109, 110, 112, 113, 114, 115, 118, 119, 120, 121, 122]⟩ : ByteArray) (Go.bits .and .i64 (Go.bits .or .i64 (ji13) (ji19)) 31)
                                replace p22 := eq_true p22
                                replace q22 := eq_true q22
                                have p26 : 0 ≤ ((ji23) : Int) := of_decide_eq_true (by first | (with_reducible assumption) | assumption)
                                have q26 : ((ji23) : Int) < ((x4_1.length : Int) : Int) := of_decide_eq_true (by first | (with_reducible assumption) | assumption)
                                obtain ⟨go26, co26, eo26, gb26, gl26, cl26, HG26⟩ := Kd.R_form HO_4.out (by omega)
                                (first | cases eo26 | (injection eo26 with ea_ en_ ec_; (first | subst ea_ | (injection ea_ with ea_; subst ea_)); subst ec_; clear en_))
                                have GB26 := Aside0.mk gb26
                                have GG26 := Aside0.mk HG26
                                clear gb26 gl26 HG26
                                obtain ⟨hx26_0, hf26_0⟩ := Kd.R_celln 0 HO_4.out ((ji23) : Int) p26 q26
                                replace p26 := eq_true p26
                                replace q26 := eq_true q26
                                have HP27 := Kd.R_putg HO_4.out ((ji23) : Int) (bt (⟨#[48, 49, 50, 51, 52, 53, 54, 55, 56, 57, 97, 98, 99, 100, 102, 103, 104, 105, 106, 107, 108, 109, 110, 112, 113, 114, 115, 118, 119, 120, 121, 122]⟩ : ByteArray) (Go.bits .and .i64 (Go.bits .or .i64 (ji13) (ji19)) 31))
                                go_wp2_with (first | ((with_reducible refine gate_store (t := 5) (p := 55) rfl ?_); refine store_event (t := 5) (p := 55) (v := ?vo_w28) (w1 := (wr.setCell ⟨go26, ((ji23) : Int).toNat, none⟩ (.int .u8 (bt (⟨#[48, 49, 50, 51, 52, 53, 54, 55, 56, 57, 97, 98, 99, 100, 102, 103, 104, 105, 106, 107, 108, 109, 110, 112, 113, 114, 115, 118, 119, 120, 121, 122]⟩ : ByteArray) (Go.bits .and .i64 (Go.bits .or .i64 (ji13) (ji19)) 31))))) ?hg ?ho ?hn ?hr ?_; (case ho => rfl); (case hg => rfl); (case hn => rfl); (case hr => first | (go_simp; done) | (go_simp; rfl)); intro w28 hw; have hg : wr.grownBy w28 (some go26) := (by rw [hw]; exact HP27.2); have hp_ : Kd.R (Kd.int .u8) 5 w28 w.heap.size (fun _ => True) (.slice (some ⟨go26, 0, none⟩) x4_1.length co26) y382 := (by rw [hw, Ny382.out]; exact HP27.1); clear HP27; have n0_ := Aside0.mk (hp_); have n1_ := Aside0.mk ((by rw [hw]; exact below_set (HB.out) GB26.out : Below w.heap.size w w28)); clear HO_4; clear HB; have HO_4 := n0_; have HB := n1_; clear n0_ n1_; clear hg hw hp_))
                                go_roundg k1
                                case measure => have := HK1.out; omega
                                case rel => exact ⟨(y382), (wrap64 (x14_1 + 1)), (by first | rfl | (simp; done) | (simp [*]; done)), H', ⟨by have := HK1.out; omega⟩, ⟨by (with_reducible repeat (first | apply Kd.R_alloc | apply Kd.R_drewN | apply Kd.R_drew)); exact HO_4.out⟩, ⟨by repeat (first | (with_reducible first | exact HB.out | apply below_alloc | apply pw_below_drewN | apply below_drew1) | exact HB.out)⟩⟩
                              · rw [if_neg c25] at H
                                exact absurd H (by simp)
                            · rw [if_neg c24] at H
                              exact absurd H (by simp)
                          · rw [if_neg c21] at H
                            exact absurd H (by simp)
                        · rw [if_neg c20] at H
                          exact absurd H (by simp)
                      · rw [if_neg c18] at H
                        exact absurd H (by simp)
                    · rw [if_neg c16] at H
                      exact absurd H (by simp)
                  · rw [if_neg c14] at H
                    have c14b0 : decide ((wrap64 ((ji8) + 1)) < (l0.length : Int)) = false := decide_eq_false c14
                    clear c14
                    by_cases c29 : 0 ≤ (Go.bits .and .i64 (ji13) 31)
                    · rw [if_pos c29] at H
                      have c29b0 : decide (0 ≤ (Go.bits .and .i64 (ji13) 31)) = true := decide_eq_true c29
                      clear c29
                      by_cases c30 : (Go.bits .and .i64 (ji13) 31) < 32
                      · rw [if_pos c30] at H
                        have c30b0 : decide ((Go.bits .and .i64 (ji13) 31) < 32) = true := decide_eq_true c30
                        clear c30
                        obtain ⟨ji32, hji32⟩ : ∃ j_ : Int, (wrap64 ((wrap64 (t376 - 1)) - x14_1)) = j_ := ⟨_, rfl⟩
                        replace H : (if 0 ≤ (ji32) then (if (ji32) < (x4_1.length : Int) then (base_Encode.l0 k1 l0 t376 (x4_1.set ((ji32) : Int).toNat (bt (⟨#[48, 49, 50, 51, 52, 53, 54, 55, 56, 57, 97, 98, 99, 100, 102, 103, 104, 105, 106, 107, 108, 109, 110, 112, 113, 114, 115, 118, 119, 120, 121, 122]⟩ : ByteArray) (Go.bits .and .i64 (ji13) 31))) t376 (wrap64 (x14_1 + 1))) else (none)) else (none)) = some r := by first | (rw [hji32] at H; exact H) | (simp only [hji32] at H ⊢; exact H)
                        have hji32w : (IntKind.i64.wrap ((wrap64 (t376 - 1)) - x14_1)) = ji32 := (i64_w _).trans hji32
                        by_cases c33 : 0 ≤ (ji32)
                        · rw [if_pos c33] at H
                          have c33b0 : decide (0 ≤ (ji32)) = true := decide_eq_true c33
                          clear c33
                          by_cases c34 : (ji32) < (x4_1.length : Int)
                          · rw [if_pos c34] at H
                            have c34b0 : decide ((ji32) < (x4_1.length : Int)) = true := decide_eq_true c34
                            clear c34
                            obtain ⟨y383, hy383⟩ : ∃ y_ : List Int, y_ = (x4_1.set ((ji32) : Int).toNat (bt (⟨#[48, 49, 50, 51, 52, 53, 54, 55, 56, 57, 97, 98, 99, 100, 102, 103, 104, 105, 106, 107, 108, 109, 110, 112, 113, 114, 115, 118, 119, 120, 121, 122]⟩ : ByteArray) (Go.bits .and .i64 (ji13) 31))) := ⟨_, rfl⟩
                            replace H : (base_Encode.l0 k1 l0 t376 y383 t376 (wrap64 (x14_1 + 1))) = some r := by first | (rw [hy383]; with_reducible exact H) | (have H2_ := (Option.bind_some _ _).symm.trans H; rw [hy383]; with_reducible exact H2_) | (have H2_ := (Option.bind_some _ _).symm.trans H; with_reducible exact H2_) | with_reducible exact H | (rw [hy383]; exact H) | exact H
                            have Ny383 := Aside0.mk hy383
                            clear hy383
                            have H' := Aside0.mk H
                            clear H
                            have p380 : 0 ≤ ((ji8) : Int) := of_decide_eq_true (by first | (with_reducible assumption) | assumption)
                            have q380 : (ji8) < (l0.length : Int) := of_decide_eq_true (by first | (with_reducible assumption) | assumption)
                            obtain ⟨ad380, e380, hx380_0⟩ := Kd.at_int HR0.out (ji8) p380 q380
                            cases e380
                            replace hx380_0 := (HB.out.cell (World.block_lt_of_cell? w _ hx380_0)).trans hx380_0
                            replace p380 := eq_true p380
                            replace q380 := eq_true q380
                            have p31 : 0 ≤ ((Go.bits .and .i64 (ji13) 31) : Int) := of_decide_eq_true (by first | (with_reducible assumption) | assumption)
                            have q31 : (Go.bits .and .i64 (ji13) 31) < (32 : Int) := of_decide_eq_true (by first | (with_reducible assumption) | assumption)
                            have hx31 := bt_at (⟨#[48, 49, 50, 51, 52, 53, 54, 55, 56, 57, 97, 98, 99, 100, 102, 103, 104, 105, 106, 107, 108, 109, 110, 112, 113, 114, 115, 118, 119, 120, 121, 122]⟩ : ByteArray) (Go.bits .and .i64 (ji13) 31)
                            replace p31 := eq_true p31
                            replace q31 := eq_true q31
                            have p35 : 0 ≤ ((ji32) : Int) := of_decide_eq_true (by first | (with_reducible assumption) | assumption)
                            have q35 : ((ji32) : Int) < ((x4_1.length : Int) : Int) := of_decide_eq_true (by first | (with_reducible assumption) | assumption)
                            obtain ⟨go35, co35, eo35, gb35, gl35, cl35, HG35⟩ := Kd.R_form HO_4.out (by omega)
                            (first | cases eo35 | (injection eo35 with ea_ en_ ec_; (first | subst ea_ | (injection ea_ with ea_; subst ea_)); subst ec_; clear en_))
                            have GB35 := Aside0.mk gb35
                            have GG35 := Aside0.mk HG35
                            clear gb35 gl35 HG35
                            obtain ⟨hx35_0, hf35_0⟩ := Kd.R_celln 0 HO_4.out ((ji32) : Int) p35 q35
                            replace p35 := eq_true p35
                            replace q35 := eq_true q35
                            have HP36 := Kd.R_putg HO_4.out ((ji32) : Int) (bt (⟨#[48, 49, 50, 51, 52, 53, 54, 55, 56, 57, 97, 98, 99, 100, 102, 103, 104, 105, 106, 107, 108, 109, 110, 112, 113, 114, 115, 118, 119, 120, 121, 122]⟩ : ByteArray) (Go.bits .and .i64 (ji13) 31))
                            go_wp2_with (first | ((with_reducible refine gate_store (t := 5) (p := 55) rfl ?_); refine store_event (t := 5) (p := 55) (v := ?vo_w37) (w1 := (wr.setCell ⟨go35, ((ji32) : Int).toNat, none⟩ (.int .u8 (bt (⟨#[48, 49, 50, 51, 52, 53, 54, 55, 56, 57, 97, 98, 99, 100, 102, 103, 104, 105, 106, 107, 108, 109, 110, 112, 113, 114, 115, 118, 119, 120, 121, 122]⟩ : ByteArray) (Go.bits .and .i64 (ji13) 31))))) ?hg ?ho ?hn ?hr ?_; (case ho => rfl); (case hg => rfl); (case hn => rfl); (case hr => first | (go_simp; done) | (go_simp; rfl)); intro w37 hw; have hg : wr.grownBy w37 (some go35) := (by rw [hw]; exact HP36.2); have hp_ : Kd.R (Kd.int .u8) 5 w37 w.heap.size (fun _ => True) (.slice (some ⟨go35, 0, none⟩) x4_1.length co35) y383 := (by rw [hw, Ny383.out]; exact HP36.1); clear HP36; have n0_ := Aside0.mk (hp_); have n1_ := Aside0.mk ((by rw [hw]; exact below_set (HB.out) GB35.out : Below w.heap.size w w37)); clear HO_4; clear HB; have HO_4 := n0_; have HB := n1_; clear n0_ n1_; clear hg hw hp_))
                            go_roundg k1
                            case measure => have := HK1.out; omega
                            case rel => exact ⟨(y383), (wrap64 (x14_1 + 1)), (by first | rfl | (simp; done) | (simp [*]; done)), H', ⟨by have := HK1.out; omega⟩, ⟨by (with_reducible repeat (first | apply Kd.R_alloc | apply Kd.R_drewN | apply Kd.R_drew)); exact HO_4.out⟩, ⟨by repeat (first | (with_reducible first | exact HB.out | apply below_alloc | apply pw_below_drewN | apply below_drew1) | exact HB.out)⟩⟩
                          · rw [if_neg c34] at H
                            exact absurd H (by simp)
                        · rw [if_neg c33] at H
                          exact absurd H (by simp)
                      · rw [if_neg c30] at H
                        exact absurd H (by simp)
                    · rw [if_neg c29] at H
                      exact absurd H (by simp)
                · rw [if_neg c12] at H
                  exact absurd H (by simp)
              · rw [if_neg c10] at H
                exact absurd H (by simp)
            · rw [if_neg c9] at H
              exact absurd H (by simp)
          · rw [if_neg c7] at H
            have c7b0 : decide (x14_1 < t376) = false := decide_eq_false c7
            clear c7
            obtain rfl := Option.some.inj H
            have hcv38 := own_string (P := Try.prog) Try.underlying22 Try.underlying5 Try.underlying9 (Kd.own_of_R HO_4.out)
            go_wp2
            go_ret
            exact ⟨by first | rfl | (simp [errW_none, errW_some] <;> rfl) | (simp [*, errW_none, errW_some] <;> rfl), by repeat (first | (with_reducible first | exact HB.out | apply below_alloc | apply pw_below_drewN | apply below_drew1) | exact HB.out)⟩
    · rw [if_neg c4] at H
      exact absurd H (by simp)
  · rw [if_neg c3] at H
    exact absurd H (by simp)

end Go.Proofs.Ytffcegbcjkhnoaa.PC
