import Derived.Test.YtffcegbcjkhnoaaGAw4
import Derived.Test.YtffcegbcjkhnoaaGCrc
import Derived.Test.YtffcegbcjkhnoaaCXor
namespace Go.Proofs.Ytffcegbcjkhnoaa.PC
open Go.RowKit Go.Proofs.YtffcegbcjkhnoaaW.PrintWords Go.Proofs.YtffcegbcjkhnoaaW.PrintLast Go.Proofs.YtffcegbcjkhnoaaW.PrintMore
attribute [local go_sem] max2_int min2_int max_two min_two max_three min_three max_four min_four
set_option linter.unusedVariables false
set_option linter.unusedSimpArgs false

/-! ### chandlerylaw04_FoldCrc: function 17 -/
mutual
def chandlerylaw04_FoldCrc.j0 : Nat → List Int → Int → List Int → Int → Bool → Option (Bool)
  | 0, _, _, _, _, _ => none
  | k + 1, x0, x1, x5, x6, x27 => if x27 = true then (some false) else (if x1 < 0 then (chandlerylaw04_FoldCrc.j1 k x1 x5 x6 true) else (chandlerylaw04_FoldCrc.j1 k x1 x5 x6 (decide (x1 ≥ (wrap64 (8 * (x0.length : Int)))))))
def chandlerylaw04_FoldCrc.j1 : Nat → Int → List Int → Int → Bool → Option (Bool)
  | 0, _, _, _, _ => none
  | k + 1, x1, x5, x6, x36 => if x36 = true then ((chandlerylaw04_awake.f).bind fun t451 => (some t451)) else (chandlerylaw04_FoldCrc.l0 k x1 x5 x6 1 0)
def chandlerylaw04_FoldCrc.l0 : Nat → Int → List Int → Int → Int → Int → Option (Bool)
  | 0, _, _, _, _, _ => none
  | k + 1, x1, x5, x6, x7, x8 => if x8 < (Int.tmod x1 8) then (chandlerylaw04_FoldCrc.l0 k x1 x5 x6 (wrap64 (2 * x7)) (wrap64 (x8 + 1))) else (if 0 ≤ (wrap64 (Int.tdiv x1 8)) then (if (wrap64 (Int.tdiv x1 8)) < (x5.length : Int) then ((chandleryref04_Xor.f k (wrap64 (rd x5 (wrap64 (Int.tdiv x1 8)))) x7).bind fun t453 => ((chandlerylaw04_awake.f).bind fun t455 => (if t455 = true then ((fold_Crc.f k (x5.set ((wrap64 (Int.tdiv x1 8)) : Int).toNat ((t453) % 256))).bind fun t456 => (some (t456 != x6))) else (some false)))) else (none)) else (none))
end
def chandlerylaw04_FoldCrc.f (k : Nat) (l0 : List Int) (a1 : Int) : Option (Bool) := if (l0.length : Int) > 300 then (some true) else ((some (([] : List Int) : List Int)).bind fun y443 => (if y443.length + l0.length < 140737488355328 then ((some (y443 ++ l0 : List Int)).bind fun y446 => ((fold_Crc.f k y446).bind fun t449 => (if (strOfNums y446).toList = (strOfNums l0).toList then ((chandleryref04_Crc.f k l0).bind fun t450 => (chandlerylaw04_FoldCrc.j0 k l0 a1 y446 t449 (t449 != t450))) else (chandlerylaw04_FoldCrc.j0 k l0 a1 y446 t449 true)))) else (none)))
theorem chandlerylaw04_FoldCrc.mono_l : ∀ k, (∀ y0 y1 y2 y3 y4, LeO (chandlerylaw04_FoldCrc.j0 k y0 y1 y2 y3 y4) (chandlerylaw04_FoldCrc.j0 (k + 1) y0 y1 y2 y3 y4)) ∧ (∀ y0 y1 y2 y3, LeO (chandlerylaw04_FoldCrc.j1 k y0 y1 y2 y3) (chandlerylaw04_FoldCrc.j1 (k + 1) y0 y1 y2 y3)) ∧ (∀ y0 y1 y2 y3 y4, LeO (chandlerylaw04_FoldCrc.l0 k y0 y1 y2 y3 y4) (chandlerylaw04_FoldCrc.l0 (k + 1) y0 y1 y2 y3 y4))
  | 0 => ⟨fun _ _ _ _ _ r h => by simp [chandlerylaw04_FoldCrc.j0] at h, fun _ _ _ _ r h => by simp [chandlerylaw04_FoldCrc.j1] at h, fun _ _ _ _ _ r h => by simp [chandlerylaw04_FoldCrc.l0] at h⟩
  | k + 1 => by
    obtain ⟨ih0, ih1, ih2⟩ := chandlerylaw04_FoldCrc.mono_l k
    refine ⟨?_, ?_, ?_⟩
    · intro y0 y1 y2 y3 y4
      unfold chandlerylaw04_FoldCrc.j0
      repeat' first
      | (with_reducible exact ih0 _ _ _ _ _)
      | (with_reducible exact ih1 _ _ _ _)
      | (with_reducible exact ih2 _ _ _ _ _)
      | (with_reducible exact chandleryref04_Crc.mono _ _)
      | (with_reducible exact chandleryref04_Xor.mono _ _ _)
      | (with_reducible exact fold_Crc.mono _ _)
      | (with_reducible exact LeO.refl _)
      | (with_reducible exact LeO.none _)
      | (with_reducible refine LeO.ite ?_ ?_)
      | (with_reducible refine LeO.bind ?_ (fun _ => ?_))
      | exact ih0 _ _ _ _ _
      | exact ih1 _ _ _ _
      | exact ih2 _ _ _ _ _
      | exact chandleryref04_Crc.mono _ _
      | exact chandleryref04_Xor.mono _ _ _
      | exact fold_Crc.mono _ _
      | exact LeO.none _
      | refine LeO.ite ?_ ?_
      | refine LeO.bind ?_ (fun _ => ?_)
    · intro y0 y1 y2 y3
      unfold chandlerylaw04_FoldCrc.j1
      repeat' first
      | (with_reducible exact ih0 _ _ _ _ _)
      | (with_reducible exact ih1 _ _ _ _)
      | (with_reducible exact ih2 _ _ _ _ _)
      | (with_reducible exact chandleryref04_Crc.mono _ _)
      | (with_reducible exact chandleryref04_Xor.mono _ _ _)
      | (with_reducible exact fold_Crc.mono _ _)
      | (with_reducible exact LeO.refl _)
      | (with_reducible exact LeO.none _)
      | (with_reducible refine LeO.ite ?_ ?_)
      | (with_reducible refine LeO.bind ?_ (fun _ => ?_))
      | exact ih0 _ _ _ _ _
      | exact ih1 _ _ _ _
      | exact ih2 _ _ _ _ _
      | exact chandleryref04_Crc.mono _ _
      | exact chandleryref04_Xor.mono _ _ _
      | exact fold_Crc.mono _ _
      | exact LeO.none _
      | refine LeO.ite ?_ ?_
      | refine LeO.bind ?_ (fun _ => ?_)
    · intro y0 y1 y2 y3 y4
      unfold chandlerylaw04_FoldCrc.l0
      repeat' first
      | (with_reducible exact ih0 _ _ _ _ _)
      | (with_reducible exact ih1 _ _ _ _)
      | (with_reducible exact ih2 _ _ _ _ _)
      | (with_reducible exact chandleryref04_Crc.mono _ _)
      | (with_reducible exact chandleryref04_Xor.mono _ _ _)
      | (with_reducible exact fold_Crc.mono _ _)
      | (with_reducible exact LeO.refl _)
      | (with_reducible exact LeO.none _)
      | (with_reducible refine LeO.ite ?_ ?_)
      | (with_reducible refine LeO.bind ?_ (fun _ => ?_))
      | exact ih0 _ _ _ _ _
      | exact ih1 _ _ _ _
      | exact ih2 _ _ _ _ _
      | exact chandleryref04_Crc.mono _ _
      | exact chandleryref04_Xor.mono _ _ _
      | exact fold_Crc.mono _ _
      | exact LeO.none _
      | refine LeO.ite ?_ ?_
      | refine LeO.bind ?_ (fun _ => ?_)
theorem chandlerylaw04_FoldCrc.mono : ∀ a0 a1 k, LeO (chandlerylaw04_FoldCrc.f k a0 a1) (chandlerylaw04_FoldCrc.f (k + 1) a0 a1) := by
  intro a0 a1 k
  obtain ⟨ih0, ih1, ih2⟩ := chandlerylaw04_FoldCrc.mono_l k
  unfold chandlerylaw04_FoldCrc.f
  repeat' first
      | (with_reducible exact ih0 _ _ _ _ _)
      | (with_reducible exact ih1 _ _ _ _)
      | (with_reducible exact ih2 _ _ _ _ _)
      | (with_reducible exact chandleryref04_Crc.mono _ _)
      | (with_reducible exact chandleryref04_Xor.mono _ _ _)
      | (with_reducible exact fold_Crc.mono _ _)
      | (with_reducible exact LeO.refl _)
      | (with_reducible exact LeO.none _)
      | (with_reducible refine LeO.ite ?_ ?_)
      | (with_reducible refine LeO.bind ?_ (fun _ => ?_))
      | exact ih0 _ _ _ _ _
      | exact ih1 _ _ _ _
      | exact ih2 _ _ _ _ _
      | exact chandleryref04_Crc.mono _ _
      | exact chandleryref04_Xor.mono _ _ _
      | exact fold_Crc.mono _ _
      | exact LeO.none _
      | refine LeO.ite ?_ ?_
      | refine LeO.bind ?_ (fun _ => ?_)
set_option maxHeartbeats 8000000 in
set_option maxRecDepth 100000 in
theorem chandlerylaw04_FoldCrc.calls (k : Nat) (A0 : Option Addr) (c0 : Nat) (l0 : List Int) (a1 : Int) (r : Bool) (w : World) (hr0 : Kd.C (Kd.int .u8) w A0 l0.length l0) (hc0 : l0.length ≤ c0) (h : chandlerylaw04_FoldCrc.f k l0 a1 = some r) :
    Calls Try.prog 17 #[.slice A0 l0.length c0, .int .i64 a1] w fun e w' => e = .returned (.bool r) ∧ Below w.heap.size w w' := by
  have HR0 := Aside0.mk hr0
  have HC0 := Aside0.mk hc0
  clear hr0 hc0
  have HB := Aside0.mk (Below.refl w.heap.size w)
  have H : (if (l0.length : Int) > 300 then (some true) else ((some (([] : List Int) : List Int)).bind fun y443 => (if y443.length + l0.length < 140737488355328 then ((some (y443 ++ l0 : List Int)).bind fun y446 => ((fold_Crc.f k y446).bind fun t449 => (if (strOfNums y446).toList = (strOfNums l0).toList then ((chandleryref04_Crc.f k l0).bind fun t450 => (chandlerylaw04_FoldCrc.j0 k l0 a1 y446 t449 (t449 != t450))) else (chandlerylaw04_FoldCrc.j0 k l0 a1 y446 t449 true)))) else (none)))) = some r := h
  clear h
  by_cases c3 : (l0.length : Int) > 300
  · rw [if_pos c3] at H
    have c3b0 : decide (300 < (l0.length : Int)) = true := decide_eq_true c3
    have c3b1 : decide (300 < l0.length) = true := decide_eq_true (by omega)
    clear c3
    obtain rfl := Option.some.inj H
    go_enter Try.func17, Try.ntmps17
    go_wp2
    go_ret
    exact ⟨by first | rfl | (simp [errW_none, errW_some] <;> rfl) | (simp [*, errW_none, errW_some] <;> rfl), by repeat (first | (with_reducible first | exact HB.out | apply below_alloc | apply pw_below_drewN | apply below_drew1) | exact HB.out)⟩
  · rw [if_neg c3] at H
    have c3b0 : decide (300 < (l0.length : Int)) = false := decide_eq_false c3
    have c3b1 : decide (300 < l0.length) = false := decide_eq_false (by omega)
    clear c3
    obtain ⟨y443, hy443⟩ : ∃ y_ : List Int, y_ = (([] : List Int)) := ⟨_, rfl⟩
    replace H : (if y443.length + l0.length < 140737488355328 then ((some (y443 ++ l0 : List Int)).bind fun y446 => ((fold_Crc.f k y446).bind fun t449 => (if (strOfNums y446).toList = (strOfNums l0).toList then ((chandleryref04_Crc.f k l0).bind fun t450 => (chandlerylaw04_FoldCrc.j0 k l0 a1 y446 t449 (t449 != t450))) else (chandlerylaw04_FoldCrc.j0 k l0 a1 y446 t449 true)))) else (none)) = some r := by first | (rw [hy443]; with_reducible exact H) | (have H2_ := (Option.bind_some _ _).symm.trans H; rw [hy443]; with_reducible exact H2_) | (have H2_ := (Option.bind_some _ _).symm.trans H; with_reducible exact H2_) | with_reducible exact H | (rw [hy443]; exact H) | exact H
    have Ny443 := Aside0.mk hy443
    clear hy443
    by_cases c4 : y443.length + l0.length < 140737488355328
    · rw [if_pos c4] at H
      have LMc4 := Aside0.mk c4
      clear c4
      obtain ⟨y446, hy446⟩ : ∃ y_ : List Int, y_ = (y443 ++ l0) := ⟨_, rfl⟩
      replace H : ((fold_Crc.f k y446).bind fun t449 => (if (strOfNums y446).toList = (strOfNums l0).toList then ((chandleryref04_Crc.f k l0).bind fun t450 => (chandlerylaw04_FoldCrc.j0 k l0 a1 y446 t449 (t449 != t450))) else (chandlerylaw04_FoldCrc.j0 k l0 a1 y446 t449 true))) = some r := by first | (rw [hy446]; with_reducible exact H) | (have H2_ := (Option.bind_some _ _).symm.trans H; rw [hy446]; with_reducible exact H2_) | (have H2_ := (Option.bind_some _ _).symm.trans H; with_reducible exact H2_) | with_reducible exact H | (rw [hy446]; exact H) | exact H
      have Ny446 := Aside0.mk hy446
      clear hy446
      replace H := Option.bind_eq_some_iff.mp H
      obtain ⟨t449, A50, H⟩ := H
      replace H : (if (strOfNums y446).toList = (strOfNums l0).toList then ((chandleryref04_Crc.f k l0).bind fun t450 => (chandlerylaw04_FoldCrc.j0 k l0 a1 y446 t449 (t449 != t450))) else (chandlerylaw04_FoldCrc.j0 k l0 a1 y446 t449 true)) = some r := H
      have A5 := Aside0.mk A50
      clear A50
      have HC6 := Aside0.mk H
      clear H
      go_enter Try.func17, Try.ntmps17
      go_upto_region 5 with (first | ((with_reducible refine gate_dst (N := 12) rfl ?_); (try (refine gate_guard (by rfl) ?_; dsimp only)); refine Kd.R_lit (Kd.int .u8) _ 5 ?hg (N := 12) ?hd (xs := ([] : List Int)) (inner := []) (ok := fun _ => True) (okp := fun _ => True) ?hr ?hp (fun _ hk => hk) trivial (Below.refl _ _) (Nat.le_refl _) (by simp) ?_; (case hd => rfl); (case hg => rfl); (case hr => first | (go_simp; done) | (go_simp; rfl)); (case hp => exact (Reps.none _ _)); intro v444 w7 ho8 hb hg_ hnew_; clear hg_ hnew_; (first | rw [← Ny443.out] at ho8 | (simp only [Int.reduceToNat] at ho8; rw [← Ny443.out] at ho8)); have n0_ := Aside0.mk (Kd.R_lower ho8 (below_size (by repeat (first | (with_reducible first | exact HB.out | apply below_alloc | apply pw_below_drewN | apply below_drew1) | exact HB.out)))); have n1_ := Aside0.mk (below_step (by repeat (first | (with_reducible first | exact HB.out | apply below_alloc | apply pw_below_drewN | apply below_drew1) | exact HB.out)) hb); clear HB; have HO445 := n0_; have HB := n1_; clear n0_ n1_; clear hb ho8) | ((with_reducible refine gate_builtin (b := .append) (xs := #[.tmp 12, .tmp 13]) rfl ?_); (try (refine gate_guard (by rfl) ?_; dsimp only)); at_builtin; refine Kd.R_append_rows (Kd.int .u8) (w0 := w) w.heap.size rfl (.tmp 12) (.tmp 13) 22 5 (.int .u8 0) 1 rfl Try.underlying22 info5 rfl (by decide) (by omega) v444 y443 l0 _ _ _ (fun _ => True) (fun _ => False) rfl rfl ?aO ?aR (fun _ _ h => h) (fun _ h => h.elim) ?aF ?aB ?aS ?aL ?_; (case aR => repeat (first | exact (Kd.C_below HR0.out HB.out) | (with_reducible refine Kd.C_alloc ?_ _) | (with_reducible refine Kd.C_drewN ?_ _) | (with_reducible refine Kd.C_drew ?_))); (case aB => exact (by repeat (first | (with_reducible first | exact HB.out | apply below_alloc | apply pw_below_drewN | apply below_drew1) | exact HB.out))); (case aF => exact (fun _ _ => trivial)); (case aO => exact (by (with_reducible repeat (first | apply Kd.R_alloc | apply Kd.R_drewN | apply Kd.R_drew)); exact HO445.out)); (case aS => exact (below_size (by repeat (first | (with_reducible first | exact HB.out | apply below_alloc | apply pw_below_drewN | apply below_drew1) | exact HB.out)))); (case aL => have := LMc4.out; omega); intro v447 w9 ho hb hg hat; rw [← Ny446.out] at ho; have n0_ := Aside0.mk (hb); have n1_ := Aside0.mk (ho); clear HB; clear HO445; have HB := n0_; have HO448 := n1_; clear n0_ n1_; clear ho hb hg hat; obtain ⟨Ao10, co10, eo10⟩ := Kd.R_slice HO448.out; subst eo10) | ((with_reducible refine gate_callee (f := 50) rfl ?_); refine goesL_ (some 16) rfl rfl Try.func50 (by kernel_rfl) rfl #[.slice Ao10 y446.length co10] rfl (by (try simp only [List.map_toArray, List.map_cons, List.map_nil]); first | done | rfl | (simp only [List.length_drop, List.length_take]; rfl)) ?_; (with_reducible refine (fold_Crc.calls k _ _ y446 t449 _ ?side1 ?side2 A5.out).mono ?_); (case side1 => repeat (first | exact (Kd.R_reads' HO448.out).2.2 | (with_reducible refine Kd.C_alloc ?_ _) | (with_reducible refine Kd.C_drewN ?_ _) | (with_reducible refine Kd.C_drew ?_))); (case side2 => exact (Kd.R_reads' HO448.out).2.1); rintro e w' ⟨rfl, ⟨nd, rfl⟩⟩; refine ⟨_, rfl, ?_⟩))
      (try simp only [Act.put, List.setIfInBounds_toArray, List.set_cons_zero, List.set_cons_succ])
      go_cut [27] (fun v27 wc => ∃ (kq : Nat) (x27_5 : Bool), v27 = .bool x27_5 ∧ Aside0 (chandlerylaw04_FoldCrc.j0 kq l0 a1 y446 t449 x27_5 = some r) ∧ Aside0 (kq ≤ k) ∧ Aside0 (Kd.R (Kd.int .u8) 5 wc w.heap.size (fun _ => True) (.slice Ao10 y446.length co10) y446) ∧ Aside0 (Below w.heap.size w wc))
      case first =>
        have H := HC6.out
        clear HC6
        by_cases c11 : (strOfNums y446).toList = (strOfNums l0).toList
        · rw [if_pos c11] at H
          have c11b0 : ((strOfNums y446).toList == (strOfNums l0).toList) = true := beq_iff_eq.mpr c11
          have c11b1 : ((strOfNums y446).toList != (strOfNums l0).toList) = false := bne_eq_false_iff_eq.mpr c11
          clear c11
          (first | rw [c11b0] | (simp only [i64_w, i32_w]; rw [c11b0]) | skip)
          replace H := Option.bind_eq_some_iff.mp H
          obtain ⟨t450, A120, H⟩ := H
          replace H : (chandlerylaw04_FoldCrc.j0 k l0 a1 y446 t449 (t449 != t450)) = some r := H
          have A12 := Aside0.mk A120
          clear A120
          have H' := Aside0.mk H
          clear H
          have hcv13 := own_string (P := Try.prog) Try.underlying22 Try.underlying5 Try.underlying9 (Kd.own_of_R HO448.out); have hcv13d := fun nn_ : Nat => own_string (P := Try.prog) Try.underlying22 Try.underlying5 Try.underlying9 (Kd.own_of_R (Kd.R_drewN HO448.out nn_))
          have hcv14 := Kd.C_string (P := Try.prog) (A := A0) (c := c0) Try.underlying22 Try.underlying5 Try.underlying9 (Kd.C_below HR0.out HB.out); have hcv14d := fun nn_ : Nat => Kd.C_string (P := Try.prog) (A := A0) (c := c0) Try.underlying22 Try.underlying5 Try.underlying9 (Kd.C_drewN (Kd.C_below HR0.out HB.out) nn_)
          go_wp2_with (first | (go_at_call 51; (with_reducible refine (chandleryref04_Crc.calls k _ _ l0 t450 _ ?side1 ?side2 A12.out).mono ?_); (case side1 => repeat (first | exact (Kd.C_below HR0.out HB.out) | (with_reducible refine Kd.C_alloc ?_ _) | (with_reducible refine Kd.C_drewN ?_ _) | (with_reducible refine Kd.C_drew ?_))); (case side2 => exact HC0.out); rintro e w' ⟨rfl, ⟨nd, rfl⟩⟩))
          go_meet
          case rel => exact ⟨_, ((t449 != t450)), (by first | rfl | (simp; done) | (simp [*]; done)), H', ⟨by first | omega | exact Nat.le_refl _⟩, ⟨by (with_reducible repeat (first | apply Kd.R_alloc | apply Kd.R_drewN | apply Kd.R_drew)); exact HO448.out⟩, ⟨by repeat (first | (with_reducible first | exact HB.out | apply below_alloc | apply pw_below_drewN | apply below_drew1) | exact HB.out)⟩⟩
        · rw [if_neg c11] at H
          have c11b0 : ((strOfNums y446).toList == (strOfNums l0).toList) = false := beq_eq_false_iff_ne.mpr c11
          have c11b1 : ((strOfNums y446).toList != (strOfNums l0).toList) = true := bne_iff_ne.mpr c11
          (first | rw [c11b0] | (simp only [i64_w, i32_w]; rw [c11b0]) | skip)
          have H' := Aside0.mk H
          clear H
          have hcv15 := own_string (P := Try.prog) Try.underlying22 Try.underlying5 Try.underlying9 (Kd.own_of_R HO448.out); have hcv15d := fun nn_ : Nat => own_string (P := Try.prog) Try.underlying22 Try.underlying5 Try.underlying9 (Kd.own_of_R (Kd.R_drewN HO448.out nn_))
          have hcv16 := Kd.C_string (P := Try.prog) (A := A0) (c := c0) Try.underlying22 Try.underlying5 Try.underlying9 (Kd.C_below HR0.out HB.out); have hcv16d := fun nn_ : Nat => Kd.C_string (P := Try.prog) (A := A0) (c := c0) Try.underlying22 Try.underlying5 Try.underlying9 (Kd.C_drewN (Kd.C_below HR0.out HB.out) nn_)
          go_wp2
          go_meet
          case rel => exact ⟨_, (true), (by first | rfl | (simp; done) | (simp [*]; done)), H', ⟨by first | omega | exact Nat.le_refl _⟩, ⟨by (with_reducible repeat (first | apply Kd.R_alloc | apply Kd.R_drewN | apply Kd.R_drew)); exact HO448.out⟩, ⟨by repeat (first | (with_reducible first | exact HB.out | apply below_alloc | apply pw_below_drewN | apply below_drew1) | exact HB.out)⟩⟩
      case rest =>
        clear HC6
        try clear c1
        try clear hcv1
        try clear p2
        try clear c3
        try clear c3b0
        try clear c3b1
        try clear c4
        try clear c5
        try clear c11
        try clear c11b0
        try clear c11b1
        try clear hcv13
        try clear hcv14
        try clear hcv15
        try clear hcv16
        obtain ⟨kq, x27_5, rfl, HA, HJ5, HO_5, HB⟩ := hcut
        cases kq with
        | zero => exact absurd HA.out (by simp [chandlerylaw04_FoldCrc.j0])
        | succ kj5 =>
          have H := HA.out
          clear HA
          simp only [chandlerylaw04_FoldCrc.j0] at H
          by_cases c17 : x27_5 = true
          · subst c17
            have H1 : (some false) = some r := by rw [if_pos rfl] at H; exact H
            clear H
            have H := H1
            clear H1
            obtain rfl := Option.some.inj H
            go_wp2
            go_ret
            exact ⟨by first | rfl | (simp [errW_none, errW_some] <;> rfl) | (simp [*, errW_none, errW_some] <;> rfl), by repeat (first | (with_reducible first | exact HB.out | apply below_alloc | apply pw_below_drewN | apply below_drew1) | exact HB.out)⟩
          · replace c17 := Bool.eq_false_iff.mpr c17
            subst c17
            have H1 : (if a1 < 0 then (chandlerylaw04_FoldCrc.j1 kj5 a1 y446 t449 true) else (chandlerylaw04_FoldCrc.j1 kj5 a1 y446 t449 (decide (a1 ≥ (wrap64 (8 * (l0.length : Int))))))) = some r := by rw [if_neg (show ¬ (false = true) by decide)] at H; exact H
            clear H
            have H := H1
            clear H1
            have HC18 := Aside0.mk H
            clear H
            go_upto_region 7 with (fail)
            go_cut [36] (fun v36 wc => ∃ (kq : Nat) (x36_17 : Bool), v36 = .bool x36_17 ∧ Aside0 (chandlerylaw04_FoldCrc.j1 kq a1 y446 t449 x36_17 = some r) ∧ Aside0 (kq ≤ kj5) ∧ Aside0 (Kd.R (Kd.int .u8) 5 wc w.heap.size (fun _ => True) (.slice Ao10 y446.length co10) y446) ∧ Aside0 (Below w.heap.size w wc))
            case first =>
              have H := HC18.out
              clear HC18
              by_cases c19 : a1 < 0
              · rw [if_pos c19] at H
                have c19b0 : decide (a1 < 0) = true := decide_eq_true c19
                clear c19
                (first | rw [c19b0] | (simp only [i64_w, i32_w]; rw [c19b0]) | skip)
                have H' := Aside0.mk H
                clear H
                go_wp2
                go_meet
                case rel => exact ⟨_, (true), (by first | rfl | (simp; done) | (simp [*]; done)), H', ⟨by have := HJ5.out; first | omega | exact Nat.le_refl _⟩, ⟨by (with_reducible repeat (first | apply Kd.R_alloc | apply Kd.R_drewN | apply Kd.R_drew)); exact HO_5.out⟩, ⟨by repeat (first | (with_reducible first | exact HB.out | apply below_alloc | apply pw_below_drewN | apply below_drew1) | exact HB.out)⟩⟩
              · rw [if_neg c19] at H
                have c19b0 : decide (a1 < 0) = false := decide_eq_false c19
                clear c19
                (first | rw [c19b0] | (simp only [i64_w, i32_w]; rw [c19b0]) | skip)
                have H' := Aside0.mk H
                clear H
                go_wp2
                go_meet
                case rel => exact ⟨_, (decide (a1 ≥ (wrap64 (8 * (l0.length : Int))))), (by first | rfl | (simp; done) | (simp [*]; done)), H', ⟨by have := HJ5.out; first | omega | exact Nat.le_refl _⟩, ⟨by (with_reducible repeat (first | apply Kd.R_alloc | apply Kd.R_drewN | apply Kd.R_drew)); exact HO_5.out⟩, ⟨by repeat (first | (with_reducible first | exact HB.out | apply below_alloc | apply pw_below_drewN | apply below_drew1) | exact HB.out)⟩⟩
            case rest =>
              clear HC18
              try clear c1
              try clear hcv1
              try clear p2
              try clear c3
              try clear c3b0
              try clear c3b1
              try clear c4
              try clear c5
              try clear p6
              try clear c11
              try clear c11b0
              try clear c11b1
              try clear hcv13
              try clear hcv14
              try clear hcv15
              try clear hcv16
              try clear c17
              try clear c19
              try clear c19b0
              try clear p2
              obtain ⟨kq, x36_17, rfl, HA, HJ17, HO_5, HB⟩ := hcut
              cases kq with
              | zero => exact absurd HA.out (by simp [chandlerylaw04_FoldCrc.j1])
              | succ kj17 =>
                have H := HA.out
                clear HA
                simp only [chandlerylaw04_FoldCrc.j1] at H
                by_cases c20 : x36_17 = true
                · subst c20
                  have H1 : ((chandlerylaw04_awake.f).bind fun t451 => (some t451)) = some r := by rw [if_pos rfl] at H; exact H
                  clear H
                  have H := H1
                  clear H1
                  replace H := Option.bind_eq_some_iff.mp H
                  obtain ⟨t451, A210, H⟩ := H
                  replace H : (some t451) = some r := H
                  have A21 := Aside0.mk A210
                  clear A210
                  obtain rfl := Option.some.inj H
                  go_wp2_with (first | ((with_reducible refine gate_callee (f := 31) rfl ?_); refine goesL_ (some 37) rfl rfl Try.func31 (by kernel_rfl) rfl #[] rfl (by (try simp only [List.map_toArray, List.map_cons, List.map_nil]); first | done | rfl | (simp only [List.length_drop, List.length_take]; rfl)) ?_; (with_reducible refine (chandlerylaw04_awake.calls  t451 _ A21.out).mono ?_); rintro e w22 ⟨rfl, hb⟩; refine ⟨_, rfl, ?_⟩; have n0_ := Aside0.mk (Kd.R_below (by (with_reducible repeat (first | apply Kd.R_alloc | apply Kd.R_drewN | apply Kd.R_drew)); exact HO_5.out) hb); have n1_ := Aside0.mk (below_step (by repeat (first | (with_reducible first | exact HB.out | apply below_alloc | apply pw_below_drewN | apply below_drew1) | exact HB.out)) hb); clear HO_5; clear HB; have HO_5 := n0_; have HB := n1_; clear n0_ n1_; (try clear hb); (try clear hb2); (try clear hk); (try clear hi)))
                  go_ret
                  exact ⟨by first | rfl | (simp [errW_none, errW_some] <;> rfl) | (simp [*, errW_none, errW_some] <;> rfl), by repeat (first | (with_reducible first | exact HB.out | apply below_alloc | apply pw_below_drewN | apply below_drew1) | exact HB.out)⟩
                · replace c20 := Bool.eq_false_iff.mpr c20
                  subst c20
                  have H1 : (chandlerylaw04_FoldCrc.l0 kj17 a1 y446 t449 1 0) = some r := by rw [if_neg (show ¬ (false = true) by decide)] at H; exact H
                  clear H
                  have H := H1
                  clear H1
                  have H' := Aside0.mk H
                  clear H
                  go_wp2
                  go_loopg [7, 8] kj17 (fun kq v7 v8 w' => ∃ (x7_3 : Int) (x8_3 : Int), v7 = .int .i64 x7_3 ∧ v8 = .int .i64 x8_3 ∧ Aside0 (chandlerylaw04_FoldCrc.l0 kq a1 y446 t449 x7_3 x8_3 = some r) ∧ Aside0 (kq ≤ kj17) ∧ Aside0 (Kd.R (Kd.int .u8) 5 w' w.heap.size (fun _ => True) (.slice Ao10 y446.length co10) y446) ∧ Aside0 (Below w.heap.size w w'))
                  case atStart => exact ⟨(1), (0), (by first | rfl | (simp; done) | (simp [*]; done)), (by first | rfl | (simp; done) | (simp [*]; done)), H', ⟨Nat.le_refl _⟩, ⟨by (with_reducible repeat (first | apply Kd.R_alloc | apply Kd.R_drewN | apply Kd.R_drew)); exact HO_5.out⟩, ⟨by repeat (first | (with_reducible first | exact HB.out | apply below_alloc | apply pw_below_drewN | apply below_drew1) | exact HB.out)⟩⟩
                  case round =>
                    clear H'
                    try clear c1
                    try clear hcv1
                    try clear c2
                    try clear p2
                    try clear c3
                    try clear c3b0
                    try clear c3b1
                    try clear c4
                    try clear c5
                    try clear p6
                    try clear c11
                    try clear c11b0
                    try clear c11b1
                    try clear hcv13
                    try clear hcv14
                    try clear hcv15
                    try clear hcv16
                    try clear c17
                    try clear c19
                    try clear c19b0
                    try clear c20
                    try clear p2
                    try clear p6
                    obtain ⟨x7_3, x8_3, rfl, rfl, HA, HK3, HO_5, HB⟩ := hrel
                    cases gk with
                    | zero => exact absurd HA.out (by simp [chandlerylaw04_FoldCrc.l0])
                    | succ k3 =>
                      have H := HA.out
                      clear HA
                      simp only [chandlerylaw04_FoldCrc.l0] at H
                      by_cases c23 : x8_3 < (Int.tmod a1 8)
                      · rw [if_pos c23] at H
                        have c23b0 : decide (x8_3 < (Int.tmod a1 8)) = true := decide_eq_true c23
                        clear c23
                        have H' := Aside0.mk H
                        clear H
                        go_wp2
                        go_roundg k3
                        case measure => have := HJ5.out; have := HJ17.out; have := HK3.out; omega
                        case rel => exact ⟨(wrap64 (2 * x7_3)), (wrap64 (x8_3 + 1)), (by first | rfl | (simp; done) | (simp [*]; done)), (by first | rfl | (simp; done) | (simp [*]; done)), H', ⟨by have := HJ5.out; have := HJ17.out; have := HK3.out; omega⟩, ⟨by (with_reducible repeat (first | apply Kd.R_alloc | apply Kd.R_drewN | apply Kd.R_drew)); exact HO_5.out⟩, ⟨by repeat (first | (with_reducible first | exact HB.out | apply below_alloc | apply pw_below_drewN | apply below_drew1) | exact HB.out)⟩⟩
                      · rw [if_neg c23] at H
                        have c23b0 : decide (x8_3 < (Int.tmod a1 8)) = false := decide_eq_false c23
                        clear c23
                        obtain ⟨ji24, hji24⟩ : ∃ j_ : Int, (wrap64 (Int.tdiv a1 8)) = j_ := ⟨_, rfl⟩
                        replace H : (if 0 ≤ (ji24) then (if (ji24) < (y446.length : Int) then ((chandleryref04_Xor.f k3 (wrap64 (rd y446 (ji24))) x7_3).bind fun t453 => ((chandlerylaw04_awake.f).bind fun t455 => (if t455 = true then ((fold_Crc.f k3 (y446.set ((ji24) : Int).toNat ((t453) % 256))).bind fun t456 => (some (t456 != t449))) else (some false)))) else (none)) else (none)) = some r := by first | (rw [hji24] at H; exact H) | (simp only [hji24] at H ⊢; exact H)
                        have hji24w : (IntKind.i64.wrap (Int.tdiv a1 8)) = ji24 := (i64_w _).trans hji24
                        by_cases c25 : 0 ≤ (ji24)
                        · rw [if_pos c25] at H
                          have c25b0 : decide (0 ≤ (ji24)) = true := decide_eq_true c25
                          clear c25
                          by_cases c26 : (ji24) < (y446.length : Int)
                          · rw [if_pos c26] at H
                            have c26b0 : decide ((ji24) < (y446.length : Int)) = true := decide_eq_true c26
                            clear c26
                            replace H := Option.bind_eq_some_iff.mp H
                            obtain ⟨t453, A270, H⟩ := H
                            replace H : ((chandlerylaw04_awake.f).bind fun t455 => (if t455 = true then ((fold_Crc.f k3 (y446.set ((ji24) : Int).toNat ((t453) % 256))).bind fun t456 => (some (t456 != t449))) else (some false))) = some r := H
                            have A27 := Aside0.mk A270
                            clear A270
                            obtain ⟨y454, hy454⟩ : ∃ y_ : List Int, y_ = (y446.set ((ji24) : Int).toNat ((t453) % 256)) := ⟨_, rfl⟩
                            replace H : ((chandlerylaw04_awake.f).bind fun t455 => (if t455 = true then ((fold_Crc.f k3 y454).bind fun t456 => (some (t456 != t449))) else (some false))) = some r := by first | (rw [hy454]; with_reducible exact H) | (have H2_ := (Option.bind_some _ _).symm.trans H; rw [hy454]; with_reducible exact H2_) | (have H2_ := (Option.bind_some _ _).symm.trans H; with_reducible exact H2_) | with_reducible exact H | (rw [hy454]; exact H) | exact H
                            have Ny454 := Aside0.mk hy454
                            clear hy454
                            replace H := Option.bind_eq_some_iff.mp H
                            obtain ⟨t455, A290, H⟩ := H
                            replace H : (if t455 = true then ((fold_Crc.f k3 y454).bind fun t456 => (some (t456 != t449))) else (some false)) = some r := H
                            have A29 := Aside0.mk A290
                            clear A290
                            by_cases c30 : t455 = true
                            · subst c30
                              have H1 : ((fold_Crc.f k3 y454).bind fun t456 => (some (t456 != t449))) = some r := by rw [if_pos rfl] at H; exact H
                              clear H
                              have H := H1
                              clear H1
                              replace H := Option.bind_eq_some_iff.mp H
                              obtain ⟨t456, A310, H⟩ := H
                              replace H : (some (t456 != t449)) = some r := H
                              have A31 := Aside0.mk A310
                              clear A310
                              obtain rfl := Option.some.inj H
                              have p452 : 0 ≤ ((ji24) : Int) := of_decide_eq_true (by first | (with_reducible assumption) | assumption)
                              have q452 : (ji24) < (y446.length : Int) := of_decide_eq_true (by first | (with_reducible assumption) | assumption)
                              obtain ⟨ad452, e452, hx452_0⟩ := Kd.at_int (Kd.R_reads' HO_5.out).2.2 (ji24) p452 q452
                              cases e452
                              replace p452 := eq_true p452
                              replace q452 := eq_true q452
                              go_wp2_with (first | ((with_reducible refine gate_callee (f := 52) rfl ?_); refine goesL_ (some 56) rfl rfl Try.func52 (by kernel_rfl) rfl #[.int .i64 (wrap64 (rd y446 (ji24))), .int .i64 x7_3] rfl (by (try simp only [List.map_toArray, List.map_cons, List.map_nil]); first | done | (simp only [hji24]; rfl) | rfl | (simp only [List.length_drop, List.length_take]; rfl)) ?_; (with_reducible refine (chandleryref04_Xor.calls k3 (wrap64 (rd y446 (ji24))) x7_3 t453 _ A27.out).mono ?_); rintro e w' ⟨rfl, ⟨nd, rfl⟩⟩; refine ⟨_, rfl, ?_⟩; (try (rw [drewN_self wr]; generalize hq_ : World.drewN wr _ = wr; have n0_ : Aside0 (Kd.R (Kd.int .u8) 5 wr w.heap.size (fun _ => True) (.slice (some ad452) y446.length co10) y446) := ⟨by rw [← hq_]; exact (by (with_reducible repeat (first | apply Kd.R_alloc | apply Kd.R_drewN | apply Kd.R_drew)); exact HO_5.out)⟩; have n1_ : Aside0 (Below w.heap.size w wr) := ⟨by rw [← hq_]; exact (by repeat (first | (with_reducible first | exact HB.out | apply below_alloc | apply pw_below_drewN | apply below_drew1) | exact HB.out))⟩; clear HO_5 HB hq_; have HO_5 := n0_; have HB := n1_; clear n0_ n1_)); have p28 : 0 ≤ ((ji24) : Int) := of_decide_eq_true (by first | (with_reducible assumption) | assumption); have q28 : ((ji24) : Int) < ((y446.length : Int) : Int) := of_decide_eq_true (by first | (with_reducible assumption) | assumption); obtain ⟨go28, co28, eo28, gb28, gl28, cl28, HG28⟩ := Kd.R_form HO_5.out (by omega); (first | cases eo28 | (injection eo28 with ea_ en_ ec_; (first | subst ea_ | (injection ea_ with ea_; subst ea_)); subst ec_; clear en_)); have GB28 := Aside0.mk gb28; have GG28 := Aside0.mk HG28; clear gb28 gl28 HG28; (first | simp only [add_plain] at hx452_0 | skip); obtain ⟨hx28_0, hf28_0⟩ := Kd.R_celln 0 HO_5.out ((ji24) : Int) p28 q28; replace p28 := eq_true p28; replace q28 := eq_true q28; obtain ⟨hy32_, hz32_⟩ := Kd.R_celln 0 HO_5.out ((ji24) : Int) (of_decide_eq_true (by first | (with_reducible assumption) | assumption)) (of_decide_eq_true (by first | (with_reducible assumption) | assumption)); have HP32 := Kd.R_putg HO_5.out ((ji24) : Int) ((t453) % 256)) | ((with_reducible refine gate_store (t := 5) (p := 58) rfl ?_); refine store_event (t := 5) (p := 58) (v := ?vo_w33) (w1 := (wr.setCell ⟨go28, ((ji24) : Int).toNat, none⟩ (.int .u8 ((t453) % 256)))) ?hg ?ho ?hn ?hr ?_; (case ho => rfl); (case hg => rfl); (case hn => rfl); (case hr => first | (go_simp; done) | (go_simp; rfl)); intro w33 hw; have hg : wr.grownBy w33 (some go28) := (by rw [hw]; exact HP32.2); have hp_ : Kd.R (Kd.int .u8) 5 w33 w.heap.size (fun _ => True) (.slice (some ⟨go28, 0, none⟩) y446.length co10) y454 := (by rw [hw, Ny454.out]; exact HP32.1); clear HP32; have n0_ := Aside0.mk (hp_); have n1_ := Aside0.mk ((by rw [hw]; exact below_set (HB.out) GB28.out : Below w.heap.size w w33)); clear HO_5; clear HB; have HO_5 := n0_; have HB := n1_; clear n0_ n1_; clear hg hw hp_) | ((with_reducible refine gate_callee (f := 31) rfl ?_); refine goesL_ (some 59) rfl rfl Try.func31 (by kernel_rfl) rfl #[] rfl (by (try simp only [List.map_toArray, List.map_cons, List.map_nil]); first | done | rfl | (simp only [List.length_drop, List.length_take]; rfl)) ?_; (with_reducible refine (chandlerylaw04_awake.calls  true _ A29.out).mono ?_); rintro e w34 ⟨rfl, hb⟩; refine ⟨_, rfl, ?_⟩; have n0_ := Aside0.mk (Kd.R_below (by (with_reducible repeat (first | apply Kd.R_alloc | apply Kd.R_drewN | apply Kd.R_drew)); exact HO_5.out) hb); have n1_ := Aside0.mk (below_step (by repeat (first | (with_reducible first | exact HB.out | apply below_alloc | apply pw_below_drewN | apply below_drew1) | exact HB.out)) hb); clear HO_5; clear HB; have HO_5 := n0_; have HB := n1_; clear n0_ n1_; (try clear hb); (try clear hb2); (try clear hk); (try clear hi)) | (go_at_call 50; refine calls_of_args (args' := #[.slice (some ⟨go28, 0, none⟩) y454.length co10]) (by first | (rw [show y454.length = y446.length from (Kd.R_reads' HO_5.out).1.symm] <;> rfl) | rfl) ?_; (with_reducible refine (fold_Crc.calls k3 _ _ y454 t456 _ ?side1 ?side2 A31.out).mono ?_); (case side1 => repeat (first | exact (Kd.R_reads' HO_5.out).2.2 | (with_reducible refine Kd.C_alloc ?_ _) | (with_reducible refine Kd.C_drewN ?_ _) | (with_reducible refine Kd.C_drew ?_))); (case side2 => rw [show y454.length = y446.length from (Kd.R_reads' HO_5.out).1.symm]; exact (Kd.R_reads' HO_5.out).2.1); rintro e w' ⟨rfl, ⟨nd, rfl⟩⟩))
                              go_ret
                              exact ⟨by first | rfl | (simp [errW_none, errW_some] <;> rfl) | (simp only [← hji24]; first | rfl | (simp [errW_none, errW_some] <;> rfl)) | (simp [*, errW_none, errW_some] <;> rfl), by repeat (first | (with_reducible first | exact HB.out | apply below_alloc | apply pw_below_drewN | apply below_drew1) | exact HB.out)⟩
                            · replace c30 := Bool.eq_false_iff.mpr c30
                              subst c30
                              have H1 : (some false) = some r := by rw [if_neg (show ¬ (false = true) by decide)] at H; exact H
                              clear H
                              have H := H1
                              clear H1
                              obtain rfl := Option.some.inj H
                              have p452 : 0 ≤ ((ji24) : Int) := of_decide_eq_true (by first | (with_reducible assumption) | assumption)
                              have q452 : (ji24) < (y446.length : Int) := of_decide_eq_true (by first | (with_reducible assumption) | assumption)
                              obtain ⟨ad452, e452, hx452_0⟩ := Kd.at_int (Kd.R_reads' HO_5.out).2.2 (ji24) p452 q452
                              cases e452
                              replace p452 := eq_true p452
                              replace q452 := eq_true q452
                              go_wp2_with (first | ((with_reducible refine gate_callee (f := 52) rfl ?_); refine goesL_ (some 56) rfl rfl Try.func52 (by kernel_rfl) rfl #[.int .i64 (wrap64 (rd y446 (ji24))), .int .i64 x7_3] rfl (by (try simp only [List.map_toArray, List.map_cons, List.map_nil]); first | done | (simp only [hji24]; rfl) | rfl | (simp only [List.length_drop, List.length_take]; rfl)) ?_; (with_reducible refine (chandleryref04_Xor.calls k3 (wrap64 (rd y446 (ji24))) x7_3 t453 _ A27.out).mono ?_); rintro e w' ⟨rfl, ⟨nd, rfl⟩⟩; refine ⟨_, rfl, ?_⟩; (try (rw [drewN_self wr]; generalize hq_ : World.drewN wr _ = wr; have n0_ : Aside0 (Kd.R (Kd.int .u8) 5 wr w.heap.size (fun _ => True) (.slice (some ad452) y446.length co10) y446) := ⟨by rw [← hq_]; exact (by (with_reducible repeat (first | apply Kd.R_alloc | apply Kd.R_drewN | apply Kd.R_drew)); exact HO_5.out)⟩; have n1_ : Aside0 (Below w.heap.size w wr) := ⟨by rw [← hq_]; exact (by repeat (first | (with_reducible first | exact HB.out | apply below_alloc | apply pw_below_drewN | apply below_drew1) | exact HB.out))⟩; clear HO_5 HB hq_; have HO_5 := n0_; have HB := n1_; clear n0_ n1_)); have p28 : 0 ≤ ((ji24) : Int) := of_decide_eq_true (by first | (with_reducible assumption) | assumption); have q28 : ((ji24) : Int) < ((y446.length : Int) : Int) := of_decide_eq_true (by first | (with_reducible assumption) | assumption); obtain ⟨go28, co28, eo28, gb28, gl28, cl28, HG28⟩ := Kd.R_form HO_5.out (by omega); (first | cases eo28 | (injection eo28 with ea_ en_ ec_; (first | subst ea_ | (injection ea_ with ea_; subst ea_)); subst ec_; clear en_)); have GB28 := Aside0.mk gb28; have GG28 := Aside0.mk HG28; clear gb28 gl28 HG28; (first | simp only [add_plain] at hx452_0 | skip); obtain ⟨hx28_0, hf28_0⟩ := Kd.R_celln 0 HO_5.out ((ji24) : Int) p28 q28; replace p28 := eq_true p28; replace q28 := eq_true q28; obtain ⟨hy35_, hz35_⟩ := Kd.R_celln 0 HO_5.out ((ji24) : Int) (of_decide_eq_true (by first | (with_reducible assumption) | assumption)) (of_decide_eq_true (by first | (with_reducible assumption) | assumption)); have HP35 := Kd.R_putg HO_5.out ((ji24) : Int) ((t453) % 256)) | ((with_reducible refine gate_store (t := 5) (p := 58) rfl ?_); refine store_event (t := 5) (p := 58) (v := ?vo_w36) (w1 := (wr.setCell ⟨go28, ((ji24) : Int).toNat, none⟩ (.int .u8 ((t453) % 256)))) ?hg ?ho ?hn ?hr ?_; (case ho => rfl); (case hg => rfl); (case hn => rfl); (case hr => first | (go_simp; done) | (go_simp; rfl)); intro w36 hw; have hg : wr.grownBy w36 (some go28) := (by rw [hw]; exact HP35.2); have hp_ : Kd.R (Kd.int .u8) 5 w36 w.heap.size (fun _ => True) (.slice (some ⟨go28, 0, none⟩) y446.length co10) y454 := (by rw [hw, Ny454.out]; exact HP35.1); clear HP35; have n0_ := Aside0.mk (hp_); have n1_ := Aside0.mk ((by rw [hw]; exact below_set (HB.out) GB28.out : Below w.heap.size w w36)); clear HO_5; clear HB; have HO_5 := n0_; have HB := n1_; clear n0_ n1_; clear hg hw hp_) | ((with_reducible refine gate_callee (f := 31) rfl ?_); refine goesL_ (some 59) rfl rfl Try.func31 (by kernel_rfl) rfl #[] rfl (by (try simp only [List.map_toArray, List.map_cons, List.map_nil]); first | done | rfl | (simp only [List.length_drop, List.length_take]; rfl)) ?_; (with_reducible refine (chandlerylaw04_awake.calls  false _ A29.out).mono ?_); rintro e w37 ⟨rfl, hb⟩; refine ⟨_, rfl, ?_⟩; have n0_ := Aside0.mk (Kd.R_below (by (with_reducible repeat (first | apply Kd.R_alloc | apply Kd.R_drewN | apply Kd.R_drew)); exact HO_5.out) hb); have n1_ := Aside0.mk (below_step (by repeat (first | (with_reducible first | exact HB.out | apply below_alloc | apply pw_below_drewN | apply below_drew1) | exact HB.out)) hb); clear HO_5; clear HB; have HO_5 := n0_; have HB := n1_; clear n0_ n1_; (try clear hb); (try clear hb2); (try clear hk); (try clear hi)))
                              go_ret
                              exact ⟨by first | rfl | (simp [errW_none, errW_some] <;> rfl) | (simp only [← hji24]; first | rfl | (simp [errW_none, errW_some] <;> rfl)) | (simp [*, errW_none, errW_some] <;> rfl), by repeat (first | (with_reducible first | exact HB.out | apply below_alloc | apply pw_below_drewN | apply below_drew1) | exact HB.out)⟩
                          · rw [if_neg c26] at H
                            exact absurd H (by simp)
                        · rw [if_neg c25] at H
                          exact absurd H (by simp)
    · rw [if_neg c4] at H
      exact absurd H (by simp)

/-- THE ONE PURE STATEMENT of chandlerylaw04_FoldCrc: yours. -/
def chandlerylaw04_FoldCrc.Pure : Prop := ∀ (l0 : List Int) (a1 : Int), l0.length ≤ maxLen → l0.length * 1 ≤ 140737488351232 → (∀ x ∈ l0, (Lit.int .u8 x).wf = true) → (Lit.int .i64 a1).wf = true → ∃ k, chandlerylaw04_FoldCrc.f k l0 a1 = some true
theorem chandlerylaw04_FoldCrc.walk (P : chandlerylaw04_FoldCrc.Pure) (a0 : Option Addr) (len0 cap0 : Nat) (z0 : List Int) (a1 : Int) (w : World) (w0 : (a0 = none ∧ len0 = 0 ∧ cap0 = 0 ∧ z0 = []) ∨ ∃ x, a0 = some x ∧ len0 ≤ cap0 ∧ cap0 ≤ maxLen ∧ z0.length = cap0 ∧ (∀ i, i < z0.length → w.cell? (x.add i) = some (.int .u8 (z0.getD i 0))) ∧ ∀ n ∈ z0, (Lit.int .u8 n).wf = true) (y0 : len0 * 1 ≤ 140737488351232) (w1 : (Lit.int .i64 a1).wf = true) :
    Calls Try.prog 17 #[.slice a0 len0 cap0, .int .i64 a1] w fun e w' => e = .returned (.bool true) ∧ Below w.heap.size w w' := by
  obtain ⟨l0, rfl, hr0, hm0, hw0, hc0⟩ := ReadsInt.ofRowC w0
  obtain ⟨k, h⟩ := P l0 a1 hm0 y0 hw0 w1
  refine (chandlerylaw04_FoldCrc.calls k _ _ l0 a1 true w (Kd.C_of_reads (d := (0 : Int)) (h1 := fun _ => rfl) hr0) hc0 h).mono ?_
  rintro e w' ⟨rfl, hd⟩
  exact ⟨rfl, hd⟩

end Go.Proofs.Ytffcegbcjkhnoaa.PC
