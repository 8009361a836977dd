/- The contract of chandleryref01.Text: for every text of at most 2147483647 bytes it returns, in memory of its own, the length's eight bytes, the text's bytes and noughts up to a multiple of eight. -/
import Derived.Test.YtffcegbcjkhnoaaMWire3
namespace Go.Proofs.Ytffcegbcjkhnoaa.PC
open Go.RowKit Go.Proofs.YtffcegbcjkhnoaaW.PrintWords Go.Proofs.YtffcegbcjkhnoaaW.PrintLast Go.Proofs.YtffcegbcjkhnoaaW.PrintMore
attribute [local go_sem] max2_int min2_int max_two min_two max_three min_three max_four min_four
set_option linter.unusedVariables false
set_option linter.unusedSimpArgs false

/-! ### chandleryref01_Text: function 29 -/
def rText.l0 : Nat → List Int → Option (List Int)
  | 0, _ => none
  | k + 1, x3 => if ((x3.length : Int) % 8) = 0 then (some x3) else (if x3.length < 140737488355328 then (rText.l0 k (x3 ++ [0])) else (none))
def rText.f (k : Nat) (a0 : ByteArray) : Option (List Int) := (chandleryref01_Number.f k (a0.size : Int)).bind fun t104 => (if t104.length + a0.size < 140737488355328 then (rText.l0 k (t104 ++ bytesOf a0)) else (none))
theorem rText.mono_l : ∀ k, (∀ y0, LeO (rText.l0 k y0) (rText.l0 (k + 1) y0))
  | 0 => fun _ r h => by simp [rText.l0] at h
  | k + 1 => by
    have ih0 := rText.mono_l k
    · intro y0
      unfold rText.l0
      repeat' first
      | (with_reducible exact ih0 _)
      | (with_reducible exact chandleryref01_Number.mono _ _)
      | (with_reducible exact LeO.refl _)
      | (with_reducible exact LeO.none _)
      | (with_reducible refine LeO.ite ?_ ?_)
      | (with_reducible refine LeO.bind ?_ (fun _ => ?_))
      | exact ih0 _
      | exact chandleryref01_Number.mono _ _
      | exact LeO.none _
      | refine LeO.ite ?_ ?_
      | refine LeO.bind ?_ (fun _ => ?_)
theorem rText.mono : ∀ a0 k, LeO (rText.f k a0) (rText.f (k + 1) a0) := by
  intro a0 k
  have ih0 := rText.mono_l k
  unfold rText.f
  repeat' first
      | (with_reducible exact ih0 _)
      | (with_reducible exact chandleryref01_Number.mono _ _)
      | (with_reducible exact LeO.refl _)
      | (with_reducible exact LeO.none _)
      | (with_reducible refine LeO.ite ?_ ?_)
      | (with_reducible refine LeO.bind ?_ (fun _ => ?_))
      | exact ih0 _
      | exact chandleryref01_Number.mono _ _
      | exact LeO.none _
      | refine LeO.ite ?_ ?_
      | refine LeO.bind ?_ (fun _ => ?_)
set_option maxHeartbeats 8000000 in
set_option maxRecDepth 100000 in
theorem rText.calls (k : Nat) (a0 : ByteArray) (r : List Int) (w : World) (h : rText.f k a0 = some r) (hsz : a0.size ≤ 9223372036854775807) :
    Calls Try.prog 29 #[.string a0] w fun e w' => ∃ v0_ : Value, e = .returned (v0_) ∧ Kd.R (Kd.int .u8) 5 w' w.heap.size (fun _ => True) v0_ r ∧ Below w.heap.size w w' := by
  have HB := Aside0.mk (Below.refl w.heap.size w)
  have ASZ := Aside0.mk hsz
  clear hsz
  have H : ((chandleryref01_Number.f k (a0.size : Int)).bind fun t104 => (if t104.length + a0.size < 140737488355328 then (rText.l0 k (t104 ++ bytesOf a0)) else (none))) = some r := h
  clear h
  replace H := Option.bind_eq_some_iff.mp H
  obtain ⟨t104, A20, H⟩ := H
  replace H : (if t104.length + a0.size < 140737488355328 then (rText.l0 k (t104 ++ bytesOf a0)) else (none)) = some r := H
  have A2 := Aside0.mk A20
  clear A20
  by_cases c3 : t104.length + a0.size < 140737488355328
  · rw [if_pos c3] at H
    have LMc3 := Aside0.mk c3
    clear c3
    obtain ⟨y107, hy107⟩ : ∃ y_ : List Int, y_ = (t104 ++ bytesOf a0) := ⟨_, rfl⟩
    replace H : (rText.l0 k y107) = some r := by first | (rw [hy107]; with_reducible exact H) | (have H2_ := (Option.bind_some _ _).symm.trans H; rw [hy107]; with_reducible exact H2_) | (have H2_ := (Option.bind_some _ _).symm.trans H; with_reducible exact H2_) | with_reducible exact H | (rw [hy107]; exact H) | exact H
    have Ny107 := Aside0.mk hy107
    clear hy107
    have H' := Aside0.mk H
    clear H
    go_enter Try.func29, Try.ntmps29
    go_wp2_with (first | ((with_reducible refine gate_callee (f := 23) rfl ?_); refine goesL_ (some 6) rfl rfl Try.func23 (by kernel_rfl) rfl #[.int .i64 (a0.size : Int)] rfl (by (try simp only [List.map_toArray, List.map_cons, List.map_nil]); first | done | rfl | (simp only [List.length_drop, List.length_take]; rfl)) ?_; (with_reducible refine (chandleryref01_Number.calls k (a0.size : Int) t104 _ A2.out).mono ?_); rintro e w4 ⟨v105, rfl, ho0, hb⟩; refine ⟨_, rfl, ?_⟩; have n0_ := Aside0.mk (Kd.R_lower ho0 (below_size (by repeat (first | (with_reducible first | exact HB.out | apply below_alloc | apply pw_below_drewN | apply below_drew1) | exact HB.out)))); have n1_ := Aside0.mk (below_step (by repeat (first | (with_reducible first | exact HB.out | apply below_alloc | apply pw_below_drewN | apply below_drew1) | exact HB.out)) hb); clear HB; have HO106 := n0_; have HB := n1_; clear n0_ n1_; (try clear hb); (try clear hb2); (try clear hk); (try clear hi); (try clear ho0); have kb := print_bytes (P := Try.prog) 9 22 5 Try.underlying9 Try.underlying22 Try.underlying5 a0 w4; have kr := Aside0.mk (Kd.R_below HO106.out (bytes_below (Below.refl _ w4) (Nat.le_refl _) 5 a0)); have kB := Aside0.mk (bytes_below HB.out (below_size HB.out) 5 a0); have kS := Aside0.mk (bytes_reads w4 5 a0 ASZ.out); clear HO106 HB) | ((with_reducible refine gate_builtin (b := .append) (xs := #[.tmp 7, .tmp 9]) rfl ?_); at_builtin; refine Kd.R_append_rows (Kd.int .u8) (w0 := w) w.heap.size rfl (.tmp 7) (.tmp 9) 22 5 (.int .u8 0) 1 rfl Try.underlying22 info5 rfl (by decide) (by omega) v105 t104 (bytesOf a0) _ _ _ (fun _ => True) (fun _ => False) rfl rfl ?aO ?aR (fun _ _ h => h) (fun _ h => h.elim) ?aF ?aB ?aS ?aL ?_; (case aR => exact Kd.C_of_reads (d := (0 : Int)) (h1 := fun _ => rfl) kS.out); (case aB => exact kB.out); (case aF => exact (fun _ _ => trivial)); (case aO => exact kr.out); (case aS => exact (below_size kB.out)); (case aL => have := LMc3.out; omega); intro v108 w5 ho hb hg hat; rw [← Ny107.out] at ho; have HB := Aside0.mk hb; have HO109 := Aside0.mk ho; clear ho hb hg hat kr kB kS))
    go_loopg [3] k (fun kq v3 w' => ∃ (x3_1 : List Int), Aside0 (rText.l0 kq x3_1 = some r) ∧ Aside0 (kq ≤ k) ∧ Aside0 (Kd.R (Kd.int .u8) 5 w' w.heap.size (fun _ => True) v3 x3_1) ∧ Aside0 (Below w.heap.size w w'))
    case atStart => exact ⟨(y107), H', ⟨Nat.le_refl _⟩, ⟨by (with_reducible repeat (first | apply Kd.R_alloc | apply Kd.R_drewN | apply Kd.R_drew)); exact HO109.out⟩, ⟨by repeat (first | (with_reducible first | exact HB.out | apply below_alloc | apply pw_below_drewN | apply below_drew1) | exact HB.out)⟩⟩
    case round =>
      clear H'
      try clear c2
      try clear p2
      try clear c3
      obtain ⟨x3_1, HA, HK1, HO_3, HB⟩ := hrel
      cases gk with
      | zero => exact absurd HA.out (by simp [rText.l0])
      | succ k1 =>
        have H := HA.out
        clear HA
        simp only [rText.l0] at H
        by_cases c6 : ((x3_1.length : Int) % 8) = 0
        · rw [if_pos c6] at H
          have c6b0 : (((x3_1.length : Int) % 8) == 0) = true := beq_iff_eq.mpr c6
          have c6b1 : (((x3_1.length : Int) % 8) != 0) = false := bne_eq_false_iff_eq.mpr c6
          clear c6
          obtain rfl := Option.some.inj H
          obtain ⟨Ao7, co7, eo7⟩ := Kd.R_slice HO_3.out
          subst eo7
          go_wp2
          go_ret
          exact ⟨_, by first | rfl | (simp [errW_none, errW_some] <;> rfl) | (simp [*, errW_none, errW_some] <;> rfl), by (with_reducible repeat (first | apply Kd.R_alloc | apply Kd.R_drewN | apply Kd.R_drew)); exact HO_3.out, by repeat (first | (with_reducible first | exact HB.out | apply below_alloc | apply pw_below_drewN | apply below_drew1) | exact HB.out)⟩
        · rw [if_neg c6] at H
          have c6b0 : (((x3_1.length : Int) % 8) == 0) = false := beq_eq_false_iff_ne.mpr c6
          have c6b1 : (((x3_1.length : Int) % 8) != 0) = true := bne_iff_ne.mpr c6
          by_cases c8 : x3_1.length < 140737488355328
          · rw [if_pos c8] at H
            have LMc8 := Aside0.mk c8
            clear c8
            obtain ⟨y110, hy110⟩ : ∃ y_ : List Int, y_ = (x3_1 ++ [0]) := ⟨_, rfl⟩
            replace H : (rText.l0 k1 y110) = some r := by first | (rw [hy110]; with_reducible exact H) | (have H2_ := (Option.bind_some _ _).symm.trans H; rw [hy110]; with_reducible exact H2_) | (have H2_ := (Option.bind_some _ _).symm.trans H; with_reducible exact H2_) | with_reducible exact H | (rw [hy110]; exact H) | exact H
            have Ny110 := Aside0.mk hy110
            clear hy110
            have H' := Aside0.mk H
            clear H
            obtain ⟨Ao9, co9, eo9⟩ := Kd.R_slice HO_3.out
            subst eo9
            go_wp2_with (first | ((with_reducible refine gate_builtin (b := .append) (xs := #[.tmp 15, .tmp 16]) rfl ?_); at_builtin; refine Kd.R_append (Kd.int .u8) (w0 := w) w.heap.size rfl (.tmp 15) (.tmp 16) 22 5 (.int .u8 0) 1 rfl Try.underlying22 info5 rfl (by decide) (by omega) (.slice Ao9 x3_1.length co9) x3_1 0 [.int .u8 0] (fun _ => True) (fun _ => False) rfl rfl ?aP (fun _ hk => hk.elim) ?aF ?aO ?aB ?aS ?aL ?_; (case aP => exact rfl); (case aB => exact (by repeat (first | (with_reducible first | exact HB.out | apply below_alloc | apply pw_below_drewN | apply below_drew1) | exact HB.out))); (case aF => exact (fun _ _ => trivial)); (case aO => exact (by (with_reducible repeat (first | apply Kd.R_alloc | apply Kd.R_drewN | apply Kd.R_drew)); exact HO_3.out)); (case aS => exact (below_size (by repeat (first | (with_reducible first | exact HB.out | apply below_alloc | apply pw_below_drewN | apply below_drew1) | exact HB.out)))); (case aL => have := LMc8.out; omega); intro v111 w10 ho hb hg hat; rw [← Ny110.out] at ho; have n0_ := Aside0.mk (hb); have n1_ := Aside0.mk (ho); clear HB; clear HO_3; have HB := n0_; have HO112 := n1_; clear n0_ n1_; clear ho hb hg hat))
            go_roundg k1
            case measure => have := HK1.out; omega
            case rel => exact ⟨(y110), H', ⟨by have := HK1.out; omega⟩, ⟨by (with_reducible repeat (first | apply Kd.R_alloc | apply Kd.R_drewN | apply Kd.R_drew)); exact HO112.out⟩, ⟨by repeat (first | (with_reducible first | exact HB.out | apply below_alloc | apply pw_below_drewN | apply below_drew1) | exact HB.out)⟩⟩
          · rw [if_neg c8] at H
            exact absurd H (by simp)
  · rw [if_neg c3] at H
    exact absurd H (by simp)


theorem rText_l0 (m : Nat) : ∀ (k : Nat) (x : List Int), (x.length + m) % 8 = 0 → m < 8 → x.length + m < 140737488355328 → rText.l0 (k + m + 1) x = some (x ++ List.replicate m 0) := by
  induction m with
  | zero =>
    intro k x h hm hl
    simp only [rText.l0]
    rw [if_pos (by omega)]
    simp
  | succ m ih =>
    intro k x h hm hl
    rw [show k + (m + 1) + 1 = (k + m + 1) + 1 by omega, rText.l0, if_neg (by omega), if_pos (by omega), ih k (x ++ [0]) (by simp; omega) (by omega) (by simp; omega)]
    simp [List.replicate_succ]
theorem rText_f (s : ByteArray) (hs : s.size ≤ 2147483647) : rText.f 20 s = some (textB s) := by
  have hp := padI_bd s.size
  obtain ⟨q, hq⟩ := Int.eq_ofNat_of_zero_le hp.1
  unfold rText.f
  rw [number_f 20 s.size (by omega) (by omega) (by omega)]
  simp only [Option.bind_some]
  rw [if_pos (by simp [numB_length]; omega)]
  have hlen : (numB s.size ++ bytesOf s).length = 8 + s.size := by simp [numB_length, bytesOf_length]
  have := rText_l0 q (19 - q) (numB s.size ++ bytesOf s) (by rw [hlen]; unfold padI at hq; omega) (by omega) (by rw [hlen]; omega)
  rw [show 19 - q + q + 1 = 20 by omega] at this
  rw [this]
  unfold textB
  rw [hq, Int.toNat_natCast, List.append_assoc]
def chandleryref01_Text.f (a0 : ByteArray) : Option (List Int) := if a0.size ≤ 2147483647 then some (textB a0) else none
theorem chandleryref01_Text.calls (a0 : ByteArray) (r : List Int) (w : World) (h : chandleryref01_Text.f a0 = some r) :
    Calls Try.prog 29 #[.string a0] w fun e w' => ∃ v0_ : Value, e = .returned (v0_) ∧ Kd.R (Kd.int .u8) 5 w' w.heap.size (fun _ => True) v0_ r ∧ Below w.heap.size w w' := by
  unfold chandleryref01_Text.f at h
  by_cases hs : a0.size ≤ 2147483647
  · rw [if_pos hs] at h
    exact rText.calls 20 a0 r w ((rText_f a0 hs).trans h) (by omega)
  · rw [if_neg hs] at h
    cases h
end Go.Proofs.Ytffcegbcjkhnoaa.PC
