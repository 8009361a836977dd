/- The contract of sha256.Pad: for every number it returns what the document says, in memory of its own, or refuses. -/
import Derived.Test.YtffcegbcjkhnoaaMWire3
namespace Go.Proofs.Ytffcegbcjkhnoaa.PC
open Go.RowKit Go.Proofs.YtffcegbcjkhnoaaW.PrintWords Go.Proofs.YtffcegbcjkhnoaaW.PrintLast Go.Proofs.YtffcegbcjkhnoaaW.PrintMore
attribute [local go_sem] max2_int min2_int max_two min_two max_three min_three max_four min_four
set_option linter.unusedVariables false
set_option linter.unusedSimpArgs false

theorem w64' {n : Int} (h0 : -9223372036854775808 ≤ n) (h1 : n ≤ 9223372036854775807) : wrap64 n = n := w64 h0 h1
theorem pad_make_le (x : Int) : wrap64 (64 - Int.tmod x 64) ≤ 128 := by
  have h1 := Int.tmod_lt_of_pos x (show (0 : Int) < 64 by decide)
  have h2 := Int.tmod_lt_of_pos (-x) (show (0 : Int) < 64 by decide)
  rw [Int.neg_tmod] at h2
  rw [w64 (by omega) (by omega)]
  omega
theorem R_make_cap {ops : Array Oper} {rest : List Oper} {o : Oper} {a : Act} {Q : Exit → Act → World → Prop} {w0 W : World} (base : Nat) (hgd : o.guard = none) {N : Tmp} (hd : o.dst = some N) (x y : Operand) (ho : o.op = .makeSlice 22 x y) (n : Int)
    (hx : a.eval x = .int .i64 n) (hy : a.eval y = .int .i64 128) (h0 : 0 ≤ n) (hn : n ≤ 128) (HB : Below base w0 W) (hbase : base ≤ W.heap.size)
    (h : ∀ v1 w1, Kd.R (Kd.int .u8) 5 w1 base (fun _ => True) v1 (List.replicate n.toNat 0) → Below base w0 w1 → W.grownBy w1 none → (∃ b, v1.ownBlock = some b ∧ W.heap.size ≤ b) → wpList Try.prog ops Q rest (a.put o.dst v1) w1) : wpList Try.prog ops Q (o :: rest) a W := by
  obtain ⟨m, rfl⟩ := Int.eq_ofNat_of_zero_le h0
  rw [Int.toNat_natCast] at h
  obtain ⟨i0, hi, hzz⟩ := Option.map_eq_some_iff.1 info5
  simp only [Prod.mk.injEq] at hzz
  obtain ⟨hz0, hz1, hz2⟩ := hzz
  have hr := run_make (P := Try.prog) W 22 5 i0 (.int .u8 0) Try.underlying22 hi hz0 .i64 .i64 (m : Int) 128 (by omega) (by omega) (by rw [hz2]; decide) (by decide)
  simp only [Int.toNat_natCast] at hr
  rw [hz1] at hr
  refine wpList_plain hgd fun K hK => ?_
  unfold Oper.wp
  have hx2 : (execOp a.eval o).run Try.prog W = .ok (.value (.slice (some ⟨W.heap.size, 0, none⟩) m 128)) (W.alloc (.cells (madeCells #[.int .u8 0] 128) 5)) := by
    simp [execOp, ho, hx, hy, hr]
    rfl
  rw [hx2]
  refine hK _ _ (h _ _ ?_ (HB.alloc hbase _) (World.grownBy_alloc W _ _) ⟨W.heap.size, rfl, Nat.le_refl _⟩)
  refine Kd.R_of_own (h1 := fun _ => rfl) ?_ (fun _ _ => trivial)
  refine ⟨by simp [encs], .inr ⟨W.heap.size, 128, madeCells #[.int .u8 0] 128, by simp, hbase, heap_alloc_new W _, by simp; omega, by decide, by simp [size_madeCells], ?_⟩⟩
  apply List.ext_getElem
  · simp [encs, size_madeCells]
    omega
  · intro i h1 h2
    simp [encs, madeCells, Nat.mod_one]
/-! ### sha256_Pad: function 36 -/
mutual
def pPad.j0 : Nat → Int → Bool → Option (List Int × Int)
  | 0, _, _ => none
  | k + 1, x0, x11 => if x11 = true then (some (([] : List Int), 1)) else (if 0 ≤ (wrap64 (64 - (Int.tmod (wrap64 (x0 + 8)) 64))) then (if (wrap64 (64 - (Int.tmod (wrap64 (x0 + 8)) 64)) : Int).toNat ≤ 281474976710656 then ((some (List.replicate (wrap64 (64 - (Int.tmod (wrap64 (x0 + 8)) 64)) : Int).toNat 0 : List Int)).bind fun y101 => (if 0 < (y101.length : Int) then (pPad.l0 k x0 (y101.set (0 : Int).toNat 128) 56) else (none))) else (none)) else (none))
def pPad.l0 : Nat → Int → List Int → Int → Option (List Int × Int)
  | 0, _, _, _ => none
  | k + 1, x0, x4, x5 => if x5 ≥ 0 then (if 0 ≤ x5 then (if x4.length < 140737488355328 then (pPad.l0 k x0 (x4 ++ [(shr .i64 (wrap64 (8 * x0)) x5) % 256]) (wrap64 (x5 - 8))) else (none)) else (none)) else (some (x4, 0))
end
def pPad.f (k : Nat) (a0 : Int) : Option (List Int × Int) := if a0 < 0 then (pPad.j0 k a0 true) else (pPad.j0 k a0 (decide (a0 > 1000000000)))
theorem pPad.mono_l : ∀ k, (∀ y0 y1, LeO (pPad.j0 k y0 y1) (pPad.j0 (k + 1) y0 y1)) ∧ (∀ y0 y1 y2, LeO (pPad.l0 k y0 y1 y2) (pPad.l0 (k + 1) y0 y1 y2))
  | 0 => ⟨fun _ _ r h => by simp [pPad.j0] at h, fun _ _ _ r h => by simp [pPad.l0] at h⟩
  | k + 1 => by
    obtain ⟨ih0, ih1⟩ := pPad.mono_l k
    refine ⟨?_, ?_⟩
    · intro y0 y1
      unfold pPad.j0
      repeat' first
      | (with_reducible exact ih0 _ _)
      | (with_reducible exact ih1 _ _ _)
      | (with_reducible exact LeO.refl _)
      | (with_reducible exact LeO.none _)
      | (with_reducible refine LeO.ite ?_ ?_)
      | (with_reducible refine LeO.bind ?_ (fun _ => ?_))
      | exact ih0 _ _
      | exact ih1 _ _ _
      | exact LeO.none _
      | refine LeO.ite ?_ ?_
      | refine LeO.bind ?_ (fun _ => ?_)
    · intro y0 y1 y2
      unfold pPad.l0
      repeat' first
      | (with_reducible exact ih0 _ _)
      | (with_reducible exact ih1 _ _ _)
      | (with_reducible exact LeO.refl _)
      | (with_reducible exact LeO.none _)
      | (with_reducible refine LeO.ite ?_ ?_)
      | (with_reducible refine LeO.bind ?_ (fun _ => ?_))
      | exact ih0 _ _
      | exact ih1 _ _ _
      | exact LeO.none _
      | refine LeO.ite ?_ ?_
      | refine LeO.bind ?_ (fun _ => ?_)
theorem pPad.mono : ∀ a0 k, LeO (pPad.f k a0) (pPad.f (k + 1) a0) := by
  intro a0 k
  obtain ⟨ih0, ih1⟩ := pPad.mono_l k
  unfold pPad.f
  repeat' first
      | (with_reducible exact ih0 _ _)
      | (with_reducible exact ih1 _ _ _)
      | (with_reducible exact LeO.refl _)
      | (with_reducible exact LeO.none _)
      | (with_reducible refine LeO.ite ?_ ?_)
      | (with_reducible refine LeO.bind ?_ (fun _ => ?_))
      | exact ih0 _ _
      | exact ih1 _ _ _
      | exact LeO.none _
      | refine LeO.ite ?_ ?_
      | refine LeO.bind ?_ (fun _ => ?_)
set_option maxHeartbeats 8000000 in
set_option maxRecDepth 100000 in
theorem pPad.calls (k : Nat) (a0 : Int) (r1 : List Int) (r2 : Int) (w : World) (h : pPad.f k a0 = some (r1, r2)) :
    Calls Try.prog 36 #[.int .i64 a0] w fun e w' => ∃ v0_ : Value, e = .returned (.tuple #[v0_, .int .i64 r2]) ∧ Kd.R (Kd.int .u8) 5 w' w.heap.size (fun _ => True) v0_ r1 ∧ Below w.heap.size w w' := by
  have HB := Aside0.mk (Below.refl w.heap.size w)
  have H : (if a0 < 0 then (pPad.j0 k a0 true) else (pPad.j0 k a0 (decide (a0 > 1000000000)))) = some (r1, r2) := h
  clear h
  have HC2 := Aside0.mk H
  clear H
  go_enter Try.func36, Try.ntmps36
  go_upto_region 1 with (fail)
  go_cut [11] (fun v11 wc => ∃ (kq : Nat) (x11_1 : Bool), v11 = .bool x11_1 ∧ Aside0 (pPad.j0 kq a0 x11_1 = some (r1, r2)) ∧ Aside0 (kq ≤ k) ∧ Aside0 (Below w.heap.size w wc))
  case first =>
    have H := HC2.out
    clear HC2
    by_cases c3 : a0 < 0
    · rw [if_pos c3] at H
      have c3b0 : decide (a0 < 0) = true := decide_eq_true c3
      clear c3
      (first | rw [c3b0] | (simp only [i64_w, i32_w]; rw [c3b0]) | skip)
      have H' := Aside0.mk H
      clear H
      go_wp2
      go_meet
      case rel => exact ⟨_, (true), (by first | rfl | (simp; done) | (simp [*]; done)), H', ⟨by first | omega | exact Nat.le_refl _⟩, ⟨by repeat (first | (with_reducible first | exact HB.out | apply below_alloc | apply pw_below_drewN | apply below_drew1) | exact HB.out)⟩⟩
    · rw [if_neg c3] at H
      have c3b0 : decide (a0 < 0) = false := decide_eq_false c3
      clear c3
      (first | rw [c3b0] | (simp only [i64_w, i32_w]; rw [c3b0]) | skip)
      have H' := Aside0.mk H
      clear H
      go_wp2
      go_meet
      case rel => exact ⟨_, (decide (a0 > 1000000000)), (by first | rfl | (simp; done) | (simp [*]; done)), H', ⟨by first | omega | exact Nat.le_refl _⟩, ⟨by repeat (first | (with_reducible first | exact HB.out | apply below_alloc | apply pw_below_drewN | apply below_drew1) | exact HB.out)⟩⟩
  case rest =>
    clear HC2
    try clear p2
    try clear c3
    try clear c3b0
    obtain ⟨kq, x11_1, rfl, HA, HJ1, HB⟩ := hcut
    cases kq with
    | zero => exact absurd HA.out (by simp [pPad.j0])
    | succ kj1 =>
      have H := HA.out
      clear HA
      simp only [pPad.j0] at H
      by_cases c4 : x11_1 = true
      · subst c4
        have H1 : (some (([] : List Int), 1)) = some (r1, r2) := by rw [if_pos rfl] at H; exact H
        clear H
        have H := H1
        clear H1
        simp only [Option.some.injEq, Prod.mk.injEq] at H
        obtain ⟨rfl, rfl⟩ := H
        go_wp2
        go_ret2
        exact ⟨_, by first | rfl | (simp [errW_none, errW_some] <;> rfl) | (simp [*, errW_none, errW_some] <;> rfl), by first | exact Kd.R_nil _ _ _ _ _ | exact Kd.N_nil _ _ _ _ _ | exact Kd.V_nil _ _ _ _ _ | exact Kd.Q_nil _ _ _ _ _ | exact Kd.S_nil _ _ _ _ _, by repeat (first | (with_reducible first | exact HB.out | apply below_alloc | apply pw_below_drewN | apply below_drew1) | exact HB.out)⟩
      · replace c4 := Bool.eq_false_iff.mpr c4
        subst c4
        have H1 : (if 0 ≤ (wrap64 (64 - (Int.tmod (wrap64 (a0 + 8)) 64))) then (if (wrap64 (64 - (Int.tmod (wrap64 (a0 + 8)) 64)) : Int).toNat ≤ 281474976710656 then ((some (List.replicate (wrap64 (64 - (Int.tmod (wrap64 (a0 + 8)) 64)) : Int).toNat 0 : List Int)).bind fun y101 => (if 0 < (y101.length : Int) then (pPad.l0 kj1 a0 (y101.set (0 : Int).toNat 128) 56) else (none))) else (none)) else (none)) = some (r1, r2) := by rw [if_neg (show ¬ (false = true) by decide)] at H; exact H
        clear H
        have H := H1
        clear H1
        obtain ⟨ji5, hji5⟩ : ∃ j_ : Int, (wrap64 (64 - (Int.tmod (wrap64 (a0 + 8)) 64))) = j_ := ⟨_, rfl⟩
        replace H : (if 0 ≤ (ji5) then (if (ji5 : Int).toNat ≤ 281474976710656 then ((some (List.replicate (ji5 : Int).toNat 0 : List Int)).bind fun y101 => (if 0 < (y101.length : Int) then (pPad.l0 kj1 a0 (y101.set (0 : Int).toNat 128) 56) else (none))) else (none)) else (none)) = some (r1, r2) := by first | (rw [hji5] at H; exact H) | (simp only [hji5] at H ⊢; exact H)
        have hji5w : (IntKind.i64.wrap (64 - (Int.tmod (wrap64 (a0 + 8)) 64))) = ji5 := (i64_w _).trans hji5
        by_cases c6 : 0 ≤ (ji5)
        · rw [if_pos c6] at H
          have c6b0 := eq_true c6
          have c6b1 : decide (0 ≤ (ji5)) = true := decide_eq_true c6
          clear c6
          by_cases c7 : (ji5 : Int).toNat ≤ 281474976710656
          · rw [if_pos c7] at H
            have c7b0 := eq_true c7
            have c7b1 : decide ((ji5 : Int).toNat ≤ 281474976710656) = true := decide_eq_true c7
            clear c7
            obtain ⟨y101, hy101⟩ : ∃ y_ : List Int, y_ = (List.replicate (ji5 : Int).toNat 0) := ⟨_, rfl⟩
            replace H : (if 0 < (y101.length : Int) then (pPad.l0 kj1 a0 (y101.set (0 : Int).toNat 128) 56) else (none)) = some (r1, r2) := by first | (rw [hy101]; with_reducible exact H) | (have H2_ := (Option.bind_some _ _).symm.trans H; rw [hy101]; with_reducible exact H2_) | (have H2_ := (Option.bind_some _ _).symm.trans H; with_reducible exact H2_) | with_reducible exact H | (rw [hy101]; exact H) | exact H
            have Ny101 := Aside0.mk hy101
            clear hy101
            by_cases c8 : 0 < (y101.length : Int)
            · rw [if_pos c8] at H
              have c8b0 : decide (0 < (y101.length : Int)) = true := decide_eq_true c8
              have c8b1 : decide (0 < y101.length) = true := decide_eq_true (by omega)
              clear c8
              obtain ⟨y104, hy104⟩ : ∃ y_ : List Int, y_ = (y101.set (0 : Int).toNat 128) := ⟨_, rfl⟩
              replace H : (pPad.l0 kj1 a0 y104 56) = some (r1, r2) := by first | (rw [hy104]; with_reducible exact H) | (have H2_ := (Option.bind_some _ _).symm.trans H; rw [hy104]; with_reducible exact H2_) | (have H2_ := (Option.bind_some _ _).symm.trans H; with_reducible exact H2_) | with_reducible exact H | (rw [hy104]; exact H) | exact H
              have Ny104 := Aside0.mk hy104
              clear hy104
              have H' := Aside0.mk H
              clear H
              have HJ128 : Aside0 (ji5 ≤ 128) := ⟨by rw [← hji5]; exact pad_make_le _⟩
              go_wp2_with (first | ((with_reducible refine gate_dst (N := 16) rfl ?_); refine R_make_cap _ rfl (N := 16) rfl _ _ rfl ji5 rfl rfl (of_decide_eq_true (by first | (with_reducible assumption) | assumption)) HJ128.out (Below.refl _ _) (Nat.le_refl _) ?_; intro v102 w10 ho11 hb hg_ hnew_; clear hg_ hnew_; (first | rw [← Ny101.out] at ho11 | (simp only [Int.reduceToNat] at ho11; rw [← Ny101.out] at ho11)); have n0_ := Aside0.mk (Kd.R_lower ho11 (below_size (by repeat (first | (with_reducible first | exact HB.out | apply below_alloc | apply pw_below_drewN | apply below_drew1) | exact HB.out)))); have n1_ := Aside0.mk (below_step (by repeat (first | (with_reducible first | exact HB.out | apply below_alloc | apply pw_below_drewN | apply below_drew1) | exact HB.out)) hb); clear HB; have HO103 := n0_; have HB := n1_; clear n0_ n1_; clear hb ho11; have p9 : 0 ≤ (0 : Int) := (by omega); have q9 : (0 : Int) < ((y101.length : Int) : Int) := of_decide_eq_true (by first | (with_reducible assumption) | assumption); have qi9 : (0 < y101.length) = True := eq_true (by omega); obtain ⟨go9, co9, eo9, gb9, gl9, cl9, HG9⟩ := Kd.R_form HO103.out (by omega); (first | cases eo9 | (injection eo9 with ea_ en_ ec_; (first | subst ea_ | (injection ea_ with ea_; subst ea_)); subst ec_; clear en_)); have GB9 := Aside0.mk gb9; have GG9 := Aside0.mk HG9; clear gb9 gl9 HG9; obtain ⟨hx9_0, hf9_0⟩ := Kd.R_celln 0 HO103.out (0 : Int) p9 q9; (try rw [show ((0 : Int)).toNat = 0 from rfl] at hx9_0); (try simp only [Nat.reduceMul, Nat.zero_mul, Nat.zero_add, Nat.reduceAdd] at hx9_0); (try rw [show ((0 : Int)).toNat = 0 from rfl] at hf9_0); (try simp only [Nat.reduceMul, Nat.zero_mul, Nat.zero_add, Nat.reduceAdd] at hf9_0); replace p9 := eq_true p9; replace q9 := eq_true q9; obtain ⟨hy12_, hz12_⟩ := Kd.R_celln 0 HO103.out (0 : Int) (by omega) (of_decide_eq_true (by first | (with_reducible assumption) | assumption)); (try simp only [Int.reduceToNat, Int.toNat_zero, Int.toNat_ofNat, Nat.reduceMul, Nat.zero_mul, Nat.zero_add] at hy12_ hz12_); (try rw [show ((0 : Int)).toNat = 0 from rfl] at hy12_); (try rw [show ((0 : Int)).toNat = 0 from rfl] at hz12_); have HP12 := Kd.R_putg HO103.out (0 : Int) 128) | ((with_reducible refine gate_store (t := 5) (p := 18) rfl ?_); refine store_event (t := 5) (p := 18) (v := ?vo_w13) (w1 := (w10.setCell ⟨go9, (0 : Int).toNat, none⟩ (.int .u8 128))) ?hg ?ho ?hn ?hr ?_; (case ho => rfl); (case hg => rfl); (case hn => rfl); (case hr => first | (go_simp; done) | (go_simp; rfl)); intro w13 hw; have hg : w10.grownBy w13 (some go9) := (by rw [hw]; exact HP12.2); have hp_ : Kd.R (Kd.int .u8) 5 w13 w.heap.size (fun _ => True) (.slice (some ⟨go9, 0, none⟩) y101.length co9) y104 := (by rw [hw, Ny104.out]; exact HP12.1); clear HP12; have n0_ := Aside0.mk (hp_); have n1_ := Aside0.mk ((by rw [hw]; exact below_set (HB.out) GB9.out : Below w.heap.size w w13)); clear HO103; clear HB; have HO103 := n0_; have HB := n1_; clear n0_ n1_; clear hg hw hp_))
              go_loopg [4, 5] kj1 (fun kq v4 v5 w' => ∃ (x4_2 : List Int) (x5_2 : Int), v5 = .int .i64 x5_2 ∧ Aside0 (pPad.l0 kq a0 x4_2 x5_2 = some (r1, r2)) ∧ Aside0 (kq ≤ kj1) ∧ Aside0 (Kd.R (Kd.int .u8) 5 w' w.heap.size (fun _ => True) v4 x4_2) ∧ Aside0 (Below w.heap.size w w'))
              case atStart => exact ⟨(y104), (56), (by first | rfl | (simp; done) | (simp [*]; done)), H', ⟨Nat.le_refl _⟩, ⟨by (with_reducible repeat (first | apply Kd.R_alloc | apply Kd.R_drewN | apply Kd.R_drew)); exact HO103.out⟩, ⟨by repeat (first | (with_reducible first | exact HB.out | apply below_alloc | apply pw_below_drewN | apply below_drew1) | exact HB.out)⟩⟩
              case round =>
                clear H'
                try clear p2
                try clear c3
                try clear c3b0
                try clear c4
                try clear c6
                try clear c6b0
                try clear c6b1
                try clear p6
                try clear c7
                try clear c7b0
                try clear c7b1
                try clear c8
                try clear c8b0
                try clear c8b1
                try clear p9
                try clear q9
                try clear hx9
                try clear qi9
                try clear hf9
                try clear hx9_0
                try clear p2
                try clear p9
                try clear q9
                obtain ⟨x4_2, x5_2, rfl, HA, HK2, HO_4, HB⟩ := hrel
                cases gk with
                | zero => exact absurd HA.out (by simp [pPad.l0])
                | succ k2 =>
                  have H := HA.out
                  clear HA
                  simp only [pPad.l0] at H
                  by_cases c14 : x5_2 ≥ 0
                  · rw [if_pos c14] at H
                    have c14b0 : decide (0 ≤ x5_2) = true := decide_eq_true c14
                    clear c14
                    by_cases c15 : 0 ≤ x5_2
                    · rw [if_pos c15] at H
                      have c15b0 := eq_true c15
                      have c15b1 : decide (0 ≤ x5_2) = true := decide_eq_true c15
                      clear c15
                      obtain ⟨ji16, hji16⟩ : ∃ j_ : Int, (shr .i64 (wrap64 (8 * a0)) x5_2) = j_ := ⟨_, rfl⟩
                      replace H : (if x4_2.length < 140737488355328 then (pPad.l0 k2 a0 (x4_2 ++ [(ji16) % 256]) (wrap64 (x5_2 - 8))) else (none)) = some (r1, r2) := by first | (rw [hji16] at H; exact H) | (simp only [hji16] at H ⊢; exact H)
                      have hji16_ : ((wrap64 (8 * a0)) / 2 ^ min x5_2.toNat 64) = ji16 := hji16
                      have hji16z : x5_2 ≤ 64 → ((wrap64 (8 * a0)) / 2 ^ x5_2.toNat) = ji16 := shr_small hji16
                      by_cases c17 : x4_2.length < 140737488355328
                      · rw [if_pos c17] at H
                        have LMc17 := Aside0.mk c17
                        clear c17
                        obtain ⟨y105, hy105⟩ : ∃ y_ : List Int, y_ = (x4_2 ++ [(ji16) % 256]) := ⟨_, rfl⟩
                        replace H : (pPad.l0 k2 a0 y105 (wrap64 (x5_2 - 8))) = some (r1, r2) := by first | (rw [hy105]; with_reducible exact H) | (have H2_ := (Option.bind_some _ _).symm.trans H; rw [hy105]; with_reducible exact H2_) | (have H2_ := (Option.bind_some _ _).symm.trans H; with_reducible exact H2_) | with_reducible exact H | (rw [hy105]; exact H) | exact H
                        have Ny105 := Aside0.mk hy105
                        clear hy105
                        have H' := Aside0.mk H
                        clear H
                        go_wp2_with (first | ((with_reducible refine gate_builtin (b := .append) (xs := #[.tmp 23, .tmp 29]) rfl ?_); at_builtin; refine Kd.R_append (Kd.int .u8) (w0 := w) w.heap.size rfl (.tmp 23) (.tmp 29) 22 5 (.int .u8 0) 1 rfl Try.underlying22 info5 rfl (by decide) (by omega) u4 x4_2 ((ji16) % 256) [.int .u8 ((ji16) % 256)] (fun _ => True) (fun _ => False) rfl rfl ?aP (fun _ hk => hk.elim) ?aF ?aO ?aB ?aS ?aL ?_; (case aP => exact rfl); (case aB => exact (by repeat (first | (with_reducible first | exact HB.out | apply below_alloc | apply pw_below_drewN | apply below_drew1) | exact HB.out))); (case aF => exact (fun _ _ => trivial)); (case aO => exact (by (with_reducible repeat (first | apply Kd.R_alloc | apply Kd.R_drewN | apply Kd.R_drew)); exact HO_4.out)); (case aS => exact (below_size (by repeat (first | (with_reducible first | exact HB.out | apply below_alloc | apply pw_below_drewN | apply below_drew1) | exact HB.out)))); (case aL => have := LMc17.out; omega); intro v106 w18 ho hb hg hat; rw [← Ny105.out] at ho; have n0_ := Aside0.mk (hb); have n1_ := Aside0.mk (ho); clear HB; clear HO_4; have HB := n0_; have HO107 := n1_; clear n0_ n1_; clear ho hb hg hat))
                        go_roundg k2
                        case measure => have := HJ1.out; have := HK2.out; omega
                        case rel => exact ⟨(y105), (wrap64 (x5_2 - 8)), (by first | rfl | (simp; done) | (simp [*]; done)), H', ⟨by have := HJ1.out; have := HK2.out; omega⟩, ⟨by (with_reducible repeat (first | apply Kd.R_alloc | apply Kd.R_drewN | apply Kd.R_drew)); exact HO107.out⟩, ⟨by repeat (first | (with_reducible first | exact HB.out | apply below_alloc | apply pw_below_drewN | apply below_drew1) | exact HB.out)⟩⟩
                      · rw [if_neg c17] at H
                        exact absurd H (by simp)
                    · rw [if_neg c15] at H
                      exact absurd H (by simp)
                  · rw [if_neg c14] at H
                    have c14b0 : decide (0 ≤ x5_2) = false := decide_eq_false c14
                    clear c14
                    simp only [Option.some.injEq, Prod.mk.injEq] at H
                    obtain ⟨rfl, rfl⟩ := H
                    go_wp2
                    go_ret2
                    exact ⟨_, by first | rfl | (simp [errW_none, errW_some] <;> rfl) | (simp only [← hji5]; first | rfl | (simp [errW_none, errW_some] <;> rfl)) | (simp [*, errW_none, errW_some] <;> rfl), by (with_reducible repeat (first | apply Kd.R_alloc | apply Kd.R_drewN | apply Kd.R_drew)); exact HO_4.out, by repeat (first | (with_reducible first | exact HB.out | apply below_alloc | apply pw_below_drewN | apply below_drew1) | exact HB.out)⟩
            · rw [if_neg c8] at H
              exact absurd H (by simp)
          · rw [if_neg c7] at H
            exact absurd H (by simp)
        · rw [if_neg c6] at H
          exact absurd H (by simp)


/-- What comes behind n bytes. -/
def padS (n : Int) : List Int := (List.replicate (64 - (n + 8) % 64).toNat 0).set 0 128 ++ (List.range' 0 8).map (fun j => 8 * n / 2 ^ (56 - 8 * j) % 256)
theorem pPad_l0 (n : Int) (h0 : 0 ≤ n) (h1 : n ≤ 1000000000) (m : Nat) : ∀ (j k : Nat) (x : List Int), j + m = 8 → x.length + m ≤ 1000 →
    pPad.l0 (k + m + 1) n x (56 - 8 * (j : Int)) = some (x ++ (List.range' j m).map (fun j => 8 * n / 2 ^ (56 - 8 * j) % 256), 0) := by
  induction m with
  | zero =>
    intro j k x hj hl
    simp only [pPad.l0]
    rw [if_neg (by omega)]
    simp
  | succ m ih =>
    intro j k x hj hl
    have e1 : Aside0 (wrap64 (8 * n) = 8 * n) := ⟨w64 (by omega) (by omega)⟩
    have e2 : Aside0 (wrap64 (56 - 8 * (j : Int) - 8) = 56 - 8 * ((j + 1 : Nat) : Int)) := ⟨by rw [w64 (by omega) (by omega)]; omega⟩
    have e3 : shr .i64 (8 * n) (56 - 8 * (j : Int)) = 8 * n / 2 ^ (56 - 8 * j) := by
      unfold shr
      congr 2
      simp only [IntKind.bits]
      omega
    have := ih (j + 1) k (x ++ [8 * n / 2 ^ (56 - 8 * j) % 256]) (by omega) (by simp; omega)
    rw [show k + (m + 1) + 1 = (k + m + 1) + 1 by omega, pPad.l0]
    rw [if_pos (by omega), if_pos (by omega), if_pos (by omega), e1.out, e3, e2.out, this]
    simp [List.range'_succ]
theorem pPad_f (n : Int) (h0 : 0 ≤ n) (h1 : n ≤ 1000000000) : pPad.f 20 n = some (padS n, 0) := by
  have e1 : Aside0 (wrap64 (n + 8) = n + 8) := ⟨w64 (by omega) (by omega)⟩
  have e2 : Aside0 (wrap64 (64 - (n + 8) % 64) = 64 - (n + 8) % 64) := ⟨w64 (by omega) (by omega)⟩
  unfold pPad.f
  rw [if_neg (by omega), show decide (n > 1000000000) = false from decide_eq_false (by omega), pPad.j0, if_neg (by decide), e1.out, Int.tmod_eq_emod_of_nonneg (by omega), e2.out, if_pos (by omega), if_pos (by omega), Option.bind_some]
  rw [if_pos (by simp; omega)]
  have := pPad_l0 n h0 h1 8 0 10 ((List.replicate (64 - (n + 8) % 64).toNat 0).set (0 : Int).toNat 128) (by omega) (by simp; omega)
  exact this
theorem pPad_no (n : Int) (h : n < 0 ∨ 1000000000 < n) : pPad.f 20 n = some ([], 1) := by
  unfold pPad.f
  by_cases h0 : n < 0
  · rw [if_pos h0]
    simp only [pPad.j0, if_true]
  · rw [if_neg h0, show decide (n > 1000000000) = true from decide_eq_true (by omega)]
    simp only [pPad.j0, if_true]
def sha256_Pad.f (a0 : Int) : Option (List Int × Int) := if a0 < 0 ∨ 1000000000 < a0 then some ([], 1) else some (padS a0, 0)
theorem sha256_Pad.calls (a0 : Int) (r1 : List Int) (r2 : Int) (w : World) (h : sha256_Pad.f a0 = some (r1, r2)) :
    Calls Try.prog 36 #[.int .i64 a0] w fun e w' => ∃ v0_ : Value, e = .returned (.tuple #[v0_, .int .i64 r2]) ∧ Kd.R (Kd.int .u8) 5 w' w.heap.size (fun _ => True) v0_ r1 ∧ Below w.heap.size w w' := by
  unfold sha256_Pad.f at h
  by_cases hn : a0 < 0 ∨ 1000000000 < a0
  · rw [if_pos hn] at h
    exact pPad.calls 20 a0 r1 r2 w ((pPad_no a0 hn).trans h)
  · rw [if_neg hn] at h
    exact pPad.calls 20 a0 r1 r2 w ((pPad_f a0 (by omega) (by omega)).trans h)
end Go.Proofs.Ytffcegbcjkhnoaa.PC
