/- What the law FoldShort leans on, in one text: fold.step, fold.Crc, the short digests, awake, the digits of the base 32, the reference's digest, the walk. -/
import Derived.Test.YtffcegbcjkhnoaaC0
import Derived.WalkMore
import Derived.ScopeJumps
import Derived.Test.YtffcegbcjkhnoaaGSum
import Derived.Test.YtffcegbcjkhnoaaCFold
import Derived.Test.YtffcegbcjkhnoaaCBase
import Derived.Test.YtffcegbcjkhnoaaCRef3
import Derived.Test.YtffcegbcjkhnoaaCXor
import Derived.Test.YtffcegbcjkhnoaaCEnc2
import Derived.Lib.SlBytesConst
import Derived.Test.YtffcegbcjkhnoaaCDec
import Derived.Test.YtffcegbcjkhnoaaMFold
import Derived.Test.YtffcegbcjkhnoaaMWire3
import Derived.Test.YtffcegbcjkhnoaaMWire
/-! GCrc -/
namespace Go.Proofs.Ytffcegbcjkhnoaa.PC
open Go.RowKit Go.Proofs.YtffcegbcjkhnoaaW.PrintWords Go.Proofs.YtffcegbcjkhnoaaW.PrintLast Go.Proofs.YtffcegbcjkhnoaaW.PrintMore
attribute [local go_sem] max2_int min2_int max_two min_two max_three min_three max_four min_four
set_option linter.unusedVariables false
set_option linter.unusedSimpArgs false
/-- One turn of a sum. -/
def turn1 (s : Int) : Int := Go.bits .xor .u32 (s / 2) (Go.bits .and .u32 3988292384 (-(Go.bits .and .u32 s 1) % 4294967296))
def turnN : Nat → Int → Int
  | 0, s => s
  | n + 1, s => turnN n (turn1 s)
def fold_step.f (a0 : Int) (a1 : Int) : Option Int := some (turnN 8 (Go.bits .xor .u32 a0 (a1 % 4294967296)))
set_option maxRecDepth 100000 in
theorem fold_step.calls (a0 : Int) (a1 : Int) (r : Int) (w : World) (h : fold_step.f a0 a1 = some r) :
    Calls Try.prog 70 #[.int .u32 a0, .int .u8 a1] w fun e w' => e = .returned (.int .u32 r) ∧ Drawn0 w w' := by
  cases h
  go_enter Try.func70, Try.ntmps70
  go_wp2
  refine wp_scope_jumps 0 (fun a' w' => w' = w ∧ ∃ (m : Nat) (s : Int) (u6 u7 u8 u9 u10 u11 u12 u13 u14 u15 u16 u17 u18 u19 u20 u21 u22 : Value), a' = { tmps := #[.int .u32 s, .int .u8 a1, undef, undef, .int .u32 0, .int .i64 ((m : Int) + 1), u6, u7, u8, u9, u10, u11, u12, u13, u14, u15, u16, u17, u18, u19, u20, u21, u22, undef], defers := [] } ∧ turnN (m + 1) s = turnN 8 (Go.bits .xor .u32 a0 (a1 % 4294967296)) ∧ m ≤ 100) (fun a' _ => (intOf (a'.tmps.getD 5 undef)).toNat) rfl ?_ ?_
  · go_wp2
    go_step3
    go_wp2
    go_step3
    exact ⟨rfl, rfl, 6, turn1 (Go.bits .xor .u32 a0 (a1 % 4294967296)), _, _, _, _, _, _, _, _, _, _, _, _, _, _, _, _, _, rfl, rfl, by omega⟩
  · rintro a' w' ⟨rfl, m, s, u6, u7, u8, u9, u10, u11, u12, u13, u14, u15, u16, u17, u18, u19, u20, u21, u22, rfl, hs, hm⟩
    go_wp2
    · rename_i hpos _
      go_step3
      obtain ⟨j, rfl⟩ : ∃ j, m = j + 1 := ⟨m - 1, by omega⟩
      refine ⟨rfl, ⟨rfl, j, turn1 s, _, _, _, _, _, _, _, _, _, _, _, _, _, _, _, _, _, rfl, ?_, by omega⟩, ?_⟩
      · rw [← hs]
        rfl
      · simp [intOf]
        omega
    · rename_i hneg
      simp only [Exit.jump]
      go_ret
      obtain rfl : m = 0 := by omega
      rw [← hs]
      exact ⟨rfl, 0, rfl⟩
/-! ### fold_Crc: function 50 -/
def fold_Crc.l0 : Nat → Int → List Int → Int → Int → Option (Int)
  | 0, _, _, _, _ => none
  | k + 1, x3, x6, x7, x8 => if x8 < x7 then (if 0 ≤ x8 then (if x8 < (x6.length : Int) then ((fold_step.f x3 (rd x6 x8)).bind fun t388 => (fold_Crc.l0 k t388 x6 x7 (wrap64 (x8 + 1)))) else (none)) else (none)) else (some (wrap64 (Go.bits .xor .u32 IntKind.u32.max x3)))
def fold_Crc.f (k : Nat) (l0 : List Int) : Option (Int) := fold_Crc.l0 k 4294967295 l0 (l0.length : Int) 0
theorem fold_Crc.mono_l : ∀ k, (∀ y0 y1 y2 y3, LeO (fold_Crc.l0 k y0 y1 y2 y3) (fold_Crc.l0 (k + 1) y0 y1 y2 y3))
  | 0 => fun _ _ _ _ r h => by simp [fold_Crc.l0] at h
  | k + 1 => by
    have ih0 := fold_Crc.mono_l k
    · intro y0 y1 y2 y3
      unfold fold_Crc.l0
      repeat' first
      | (with_reducible exact ih0 _ _ _ _)
      | (with_reducible exact LeO.refl _)
      | (with_reducible exact LeO.none _)
      | (with_reducible refine LeO.ite ?_ ?_)
      | (with_reducible refine LeO.bind ?_ (fun _ => ?_))
      | exact ih0 _ _ _ _
      | exact LeO.none _
      | refine LeO.ite ?_ ?_
      | refine LeO.bind ?_ (fun _ => ?_)
theorem fold_Crc.mono : ∀ a0 k, LeO (fold_Crc.f k a0) (fold_Crc.f (k + 1) a0) := by
  intro a0 k
  have ih0 := fold_Crc.mono_l k
  unfold fold_Crc.f
  repeat' first
      | (with_reducible exact ih0 _ _ _ _)
      | (with_reducible exact LeO.refl _)
      | (with_reducible exact LeO.none _)
      | (with_reducible refine LeO.ite ?_ ?_)
      | (with_reducible refine LeO.bind ?_ (fun _ => ?_))
      | exact ih0 _ _ _ _
      | exact LeO.none _
      | refine LeO.ite ?_ ?_
      | refine LeO.bind ?_ (fun _ => ?_)
set_option maxHeartbeats 8000000 in
set_option maxRecDepth 100000 in
theorem fold_Crc.calls (k : Nat) (A0 : Option Addr) (c0 : Nat) (l0 : List Int) (r : Int) (w : World) (hr0 : Kd.C (Kd.int .u8) w A0 l0.length l0) (hc0 : l0.length ≤ c0) (h : fold_Crc.f k l0 = some r) :
    Calls Try.prog 50 #[.slice A0 l0.length c0] w fun e w' => e = .returned (.int .i64 r) ∧ Drawn0 w w' := by
  have HR0 := Aside0.mk hr0
  have HC0 := Aside0.mk hc0
  clear hr0 hc0
  have H : (fold_Crc.l0 k 4294967295 l0 (l0.length : Int) 0) = some r := h
  clear h
  have H' := Aside0.mk H
  clear H
  go_enter Try.func50, Try.ntmps50
  go_wp2
  go_loopg [3, 8] k (fun kq v3 v8 w' => ∃ (x3_1 : Int) (x8_1 : Int), v3 = .int .u32 x3_1 ∧ v8 = .int .i64 x8_1 ∧ Aside0 (fold_Crc.l0 kq x3_1 l0 (l0.length : Int) x8_1 = some r) ∧ Aside0 (kq ≤ k) ∧ Drawn0 w w')
  case atStart => exact ⟨(4294967295), (0), (by first | rfl | (simp; done) | (simp [*]; done)), (by first | rfl | (simp; done) | (simp [*]; done)), H', ⟨Nat.le_refl _⟩, by repeat (first | exact Drawn0.refl _ | apply Drawn0.step)⟩
  case round =>
    clear H'
    obtain ⟨x3_1, x8_1, rfl, rfl, HA, HK1, ⟨m1, rfl⟩⟩ := hrel
    cases gk with
    | zero => exact absurd HA.out (by simp [fold_Crc.l0])
    | succ k1 =>
      have H := HA.out
      clear HA
      simp only [fold_Crc.l0] at H
      by_cases c2 : x8_1 < (l0.length : Int)
      · rw [if_pos c2] at H
        have c2b0 : decide (x8_1 < (l0.length : Int)) = true := decide_eq_true c2
        clear c2
        by_cases c3 : 0 ≤ x8_1
        · rw [if_pos c3] at H
          have c3b0 : decide (0 ≤ x8_1) = true := decide_eq_true c3
          clear c3
          by_cases c4 : x8_1 < (l0.length : Int)
          · rw [if_pos c4] at H
            have c4b0 : decide (x8_1 < (l0.length : Int)) = true := decide_eq_true c4
            clear c4
            replace H := Option.bind_eq_some_iff.mp H
            obtain ⟨t388, A50, H⟩ := H
            replace H : (fold_Crc.l0 k1 t388 l0 (l0.length : Int) (wrap64 (x8_1 + 1))) = some r := H
            have A5 := Aside0.mk A50
            clear A50
            have H' := Aside0.mk H
            clear H
            have p387 : 0 ≤ (x8_1 : Int) := of_decide_eq_true (by first | (with_reducible assumption) | assumption)
            have q387 : x8_1 < (l0.length : Int) := of_decide_eq_true (by first | (with_reducible assumption) | assumption)
            obtain ⟨ad387, e387, hx387_0⟩ := Kd.at_int HR0.out x8_1 p387 q387
            cases e387
            replace p387 := eq_true p387
            replace q387 := eq_true q387
            go_wp2_with (first | ((with_reducible refine gate_callee (f := 70) rfl ?_); refine goesL_ (some 14) rfl rfl Try.func70 (by kernel_rfl) rfl #[.int .u32 x3_1, .int .u8 (rd l0 x8_1)] rfl (by (try simp only [List.map_toArray, List.map_cons, List.map_nil]); first | done | rfl | (simp only [List.length_drop, List.length_take]; rfl)) ?_; (with_reducible refine (fold_step.calls x3_1 (rd l0 x8_1) t388 _ A5.out).mono ?_); rintro e w' ⟨rfl, ⟨nd, rfl⟩⟩; refine ⟨_, rfl, ?_⟩))
            go_roundg k1
            case measure => have := HK1.out; omega
            case rel => exact ⟨(t388), (wrap64 (x8_1 + 1)), (by first | rfl | (simp; done) | (simp [*]; done)), (by first | rfl | (simp; done) | (simp [*]; done)), H', ⟨by have := HK1.out; omega⟩, by repeat (first | exact Drawn0.refl _ | apply Drawn0.step)⟩
          · rw [if_neg c4] at H
            exact absurd H (by simp)
        · rw [if_neg c3] at H
          exact absurd H (by simp)
      · rw [if_neg c2] at H
        have c2b0 : decide (x8_1 < (l0.length : Int)) = false := decide_eq_false c2
        clear c2
        obtain rfl := Option.some.inj H
        go_wp2
        go_ret
        exact ⟨by first | rfl | (simp; done) | (simp [*]; done), by repeat (first | exact Drawn0.refl _ | apply Drawn0.step)⟩
end Go.Proofs.Ytffcegbcjkhnoaa.PC

/-! GShort -/
namespace Go.Proofs.Ytffcegbcjkhnoaa.PC
open Go.RowKit Go.Proofs.YtffcegbcjkhnoaaW.PrintWords Go.Proofs.YtffcegbcjkhnoaaW.PrintLast Go.Proofs.YtffcegbcjkhnoaaW.PrintMore
set_option linter.unusedVariables false
set_option linter.unusedSimpArgs false
def fold_Short.f (a0 : ByteArray) : Option ByteArray := (sha256_Sum.f (bytesOf a0)).bind fun t => (fold_Fold.f 100 t 20).bind fun p => base_Encode.f 400 p.1
theorem C_bytes (W : World) (s : ByteArray) (hs : s.size ≤ 9223372036854775807) : Kd.C (Kd.int .u8) (Lib.bytesWorld W 5 s) (some ⟨W.heap.size, 0, none⟩) (bytesOf s).length (bytesOf s) := by
  rw [bytesOf_length]
  exact Kd.C_of_reads (d := 0) (h1 := fun _ => rfl) (bytes_reads W 5 s hs)
set_option maxRecDepth 100000 in
theorem fold_Short.calls (a0 : ByteArray) (r : ByteArray) (w : World) (h : fold_Short.f a0 = some r) :
    Calls Try.prog 32 #[.string a0] w fun e w' => e = .returned (.string r) ∧ Below w.heap.size w w' := by
  unfold fold_Short.f at h
  obtain ⟨t, h1, h⟩ := Option.bind_eq_some_iff.mp h
  obtain ⟨⟨p, e⟩, h2, h3⟩ := Option.bind_eq_some_iff.mp h
  have hn : (bytesOf a0).length ≤ 1000000000 := by
    unfold sha256_Sum.f at h1
    by_cases hc : (bytesOf a0).length ≤ 1000000000
    · exact hc
    · rw [if_neg hc] at h1
      cases h1
  have H1 := Aside0.mk h1
  have H2 := Aside0.mk h2
  have H3 := Aside0.mk h3
  clear h h1 h2 h3
  have hcv := print_bytes (P := Try.prog) 9 22 5 Try.underlying9 Try.underlying22 Try.underlying5 a0 w
  go_enter Try.func32, Try.ntmps32
  go_wp2_with fail
  have hsz := bytesOf_length a0
  have hx := sha256_Sum.calls (some ⟨w.heap.size, 0, none⟩) (grownCap w a0.size 0 5) (bytesOf a0) t (Lib.bytesWorld w 5 a0) (C_bytes w a0 (by omega)) (by rw [hsz]; exact grownCap_ge w _ _ _) H1.out
  rw [hsz] at hx
  refine hx.mono ?_
  have HB0 := Aside0.mk (bytes_below (Below.refl w.heap.size w) (Nat.le_refl _) 5 a0)
  clear hx hcv
  generalize Lib.bytesWorld w 5 a0 = wb at HB0 ⊢
  rintro e2 w1 ⟨v1, rfl, hr1, hb1⟩
  obtain ⟨A1, c1, rfl⟩ := Kd.R_slice hr1
  have HR1 := Aside0.mk (Kd.R_reads' hr1).2
  have HB1 := Aside0.mk (below_then HB0.out HB0.out.size hb1)
  clear hr1 hb1 HB0
  go_wp2_with fail
  refine (fold_Fold.calls 100 A1 c1 t 20 p e w1 HR1.out.2 HR1.out.1 H2.out).mono ?_
  rintro e3 w2 ⟨v2, rfl, hr2, hb2⟩
  obtain ⟨A2, c2, rfl⟩ := Kd.R_slice hr2
  have HR2 := Aside0.mk (Kd.R_reads' hr2).2
  have HB2 := Aside0.mk (below_then HB1.out HB1.out.size hb2)
  clear hr2 hb2 HB1 HR1
  go_wp2_with fail
  refine (base_Encode.calls 400 A2 c2 p r w2 HR2.out.2 HR2.out.1 H3.out).mono ?_
  rintro e4 w3 ⟨rfl, hb3⟩
  have HB3 := Aside0.mk (below_then HB2.out HB2.out.size hb3)
  clear hb3
  go_wp2_with fail
  go_ret
  exact ⟨rfl, HB3.out⟩
end Go.Proofs.Ytffcegbcjkhnoaa.PC

/-! GShortR -/
namespace Go.Proofs.Ytffcegbcjkhnoaa.PC
open Go.RowKit Go.Proofs.YtffcegbcjkhnoaaW.PrintWords Go.Proofs.YtffcegbcjkhnoaaW.PrintLast Go.Proofs.YtffcegbcjkhnoaaW.PrintMore
set_option linter.unusedVariables false
set_option linter.unusedSimpArgs false
def chandleryref04_Short.f (a0 : ByteArray) : Option ByteArray := if a0.size ≤ 1000000000 then (chandleryref03_Sum.f 100 (bytesOf a0)).bind fun t => (chandleryref04_Fold.f 1000 t 20).bind fun p => chandleryref02_Encode.f 400 p else none
set_option maxRecDepth 100000 in
theorem chandleryref04_Short.calls (a0 : ByteArray) (r : ByteArray) (w : World) (h : chandleryref04_Short.f a0 = some r) :
    Calls Try.prog 35 #[.string a0] w fun e w' => e = .returned (.string r) ∧ Below w.heap.size w w' := by
  unfold chandleryref04_Short.f at h
  by_cases hn : a0.size ≤ 1000000000
  · rw [if_pos hn] at h
    obtain ⟨t, h1, h⟩ := Option.bind_eq_some_iff.mp h
    obtain ⟨p, h2, h3⟩ := Option.bind_eq_some_iff.mp h
    have H1 := Aside0.mk h1
    have H2 := Aside0.mk h2
    have H3 := Aside0.mk h3
    clear h h1 h2 h3
    have hcv := print_bytes (P := Try.prog) 9 22 5 Try.underlying9 Try.underlying22 Try.underlying5 a0 w
    go_enter Try.func35, Try.ntmps35
    go_wp2_with fail
    have hsz := bytesOf_length a0
    have hx := chandleryref03_Sum.calls 100 (some ⟨w.heap.size, 0, none⟩) (grownCap w a0.size 0 5) (bytesOf a0) t (Lib.bytesWorld w 5 a0) (C_bytes w a0 (by omega)) (by rw [hsz]; exact grownCap_ge w _ _ _) H1.out
    rw [hsz] at hx
    refine hx.mono ?_
    have HB0 := Aside0.mk (bytes_below (Below.refl w.heap.size w) (Nat.le_refl _) 5 a0)
    clear hx hcv
    generalize Lib.bytesWorld w 5 a0 = wb at HB0 ⊢
    rintro e2 w1 ⟨v1, rfl, hr1, hb1⟩
    obtain ⟨A1, c1, rfl⟩ := Kd.R_slice hr1
    have HR1 := Aside0.mk (Kd.R_reads' hr1).2
    have HB1 := Aside0.mk (below_then HB0.out HB0.out.size hb1)
    clear hr1 hb1 HB0
    go_wp2_with fail
    refine (chandleryref04_Fold.calls 1000 A1 c1 t 20 p w1 HR1.out.2 HR1.out.1 H2.out).mono ?_
    rintro e3 w2 ⟨v2, rfl, hr2, hb2⟩
    obtain ⟨A2, c2, rfl⟩ := Kd.R_slice hr2
    have HR2 := Aside0.mk (Kd.R_reads' hr2).2
    have HB2 := Aside0.mk (below_then HB1.out HB1.out.size hb2)
    clear hr2 hb2 HB1 HR1
    go_wp2_with fail
    refine (chandleryref02_Encode.calls 400 A2 c2 p r w2 HR2.out.2 HR2.out.1 H3.out).mono ?_
    rintro e4 w3 ⟨rfl, m, rfl⟩
    have HB3 := Aside0.mk (pw_below_drewN HB2.out m)
    go_wp2_with fail
    go_ret
    exact ⟨rfl, HB3.out⟩
  · rw [if_neg hn] at h
    cases h
end Go.Proofs.Ytffcegbcjkhnoaa.PC

/-! GAw4 -/
namespace Go.Proofs.Ytffcegbcjkhnoaa.PC
open Go.RowKit Go.Proofs.YtffcegbcjkhnoaaW.PrintWords Go.Proofs.YtffcegbcjkhnoaaW.PrintLast Go.Proofs.YtffcegbcjkhnoaaW.PrintMore
set_option linter.unusedVariables false
set_option linter.unusedSimpArgs false
def shortE : ByteArray := (fold_Short.f ByteArray.empty).getD ByteArray.empty
theorem short_E : fold_Short.f (⟨#[]⟩ : ByteArray) = some shortE := by decide +kernel
theorem shortE_size : shortE.size = 32 := by decide +kernel
theorem fold_E : fold_Fold.f 20 [1, 2, 3, 4, 5] 2 = some ([7, 6], 0) := by decide +kernel
theorem crc_9 : fold_Crc.f 20 [49, 50, 51, 52, 53, 54, 55, 56, 57] = some 3421780262 := by decide +kernel
theorem crc_0 : fold_Crc.f 20 [] = some 0 := by decide +kernel
def chandlerylaw04_awake.f : Option Bool := some true
theorem C_lits (W : World) (l : List Int) (hm : l.length ≤ 9223372036854775807) (cs : Array Value) (hc : cs = (nums .u8 l).toArray) (fr : Nat × Nat) : Kd.C (Kd.int .u8) (W.alloc (.cells cs 5 fr)) (some ⟨W.heap.size, 0, none⟩) l.length l := by
  refine Kd.C_of_reads (d := 0) (h1 := fun _ => rfl) ⟨rfl, hm, fun _ => ⟨_, rfl, fun j hj => ?_⟩⟩
  have ha : (⟨W.heap.size, 0, none⟩ : Addr).add j = ⟨W.heap.size, j, none⟩ := by unfold Addr.add; split <;> simp_all
  rw [ha, cell_of_row _ _ j _ 5 fr (heap_alloc_new W _), hc]
  simp [nums, List.getElem?_eq_getElem hj, List.getD_eq_getElem?_getD]
theorem str76 : (strOfNums [7, 6]).toList = [7, 6] := by decide +kernel
set_option maxRecDepth 100000 in
theorem chandlerylaw04_awake.calls (r : Bool) (w : World) (h : chandlerylaw04_awake.f = some r) :
    Calls Try.prog 31 #[] w fun e w' => e = .returned (.bool r) ∧ Below w.heap.size w w' := by
  cases h
  go_enter Try.func31, Try.ntmps31
  go_wp2_with fail
  refine (fold_Fold.calls 20 (some ⟨w.heap.size, 0, none⟩) 5 [1, 2, 3, 4, 5] 2 [7, 6] 0 _ (C_lits w [1, 2, 3, 4, 5] (by decide) _ rfl (0, 0)) (by decide) fold_E).mono ?_
  have HB0 := Aside0.mk ((Below.refl w.heap.size w).alloc (Nat.le_refl _) (.cells (nums .u8 [1, 2, 3, 4, 5]).toArray 5))
  generalize w.alloc (.cells (nums .u8 [1, 2, 3, 4, 5]).toArray 5) = w0 at HB0 ⊢
  rintro e w1 ⟨v1, rfl, hr1, hb1⟩
  obtain ⟨A1, c1, rfl⟩ := Kd.R_slice hr1
  have hcv1 := own_string (P := Try.prog) Try.underlying22 Try.underlying5 Try.underlying9 (Kd.own_of_R hr1)
  have HB1 := Aside0.mk (below_then HB0.out HB0.out.size hb1)
  clear hr1 hb1 HB0
  rw [show ([7, 6] : List Int).length = 2 from rfl] at hcv1 ⊢
  have h76 := str76
  have hcv2 := Go.Lib.run_convert_bytes_const (P := Try.prog) w1 22 5 #[.int .u8 49, .int .u8 50, .int .u8 51, .int .u8 52, .int .u8 53, .int .u8 54, .int .u8 55, .int .u8 56, .int .u8 57] 9 9 Try.underlying22 Try.underlying5
  go_wp2_with fail
  refine (fold_Crc.calls 20 (some ⟨w1.heap.size, 0, none⟩) 9 [49, 50, 51, 52, 53, 54, 55, 56, 57] 3421780262 _ (C_lits w1 [49, 50, 51, 52, 53, 54, 55, 56, 57] (by decide) _ rfl (9, 10)) (by decide) crc_9).mono ?_
  rintro e w2 ⟨rfl, m2, rfl⟩
  have HB2 := Aside0.mk (pw_below_drewN (HB1.out.alloc HB1.out.size (.cells (nums .u8 [49, 50, 51, 52, 53, 54, 55, 56, 57]).toArray 5 (9, 10))) m2)
  generalize (w1.alloc (.cells (nums .u8 [49, 50, 51, 52, 53, 54, 55, 56, 57]).toArray 5 (9, 10))).drewN m2 = w2 at HB2 ⊢
  clear hcv1 hcv2 HB1
  go_wp2_with fail
  refine (fold_Crc.calls 20 none 0 [] 0 w2 (Kd.C_nil _ _) (by decide) crc_0).mono ?_
  rintro e w3 ⟨rfl, m3, rfl⟩
  have HB3 := Aside0.mk (pw_below_drewN HB2.out m3)
  generalize w2.drewN m3 = w3 at HB3 ⊢
  clear HB2
  go_wp2_with fail
  refine (fold_Short.calls ⟨#[]⟩ shortE w3 short_E).mono ?_
  rintro e w4 ⟨rfl, hb4⟩
  have HB4 := Aside0.mk (below_then HB3.out HB3.out.size hb4)
  clear hb4 HB3
  have hs := shortE_size
  go_wp2_with fail
  go_ret
  exact ⟨rfl, HB4.out⟩
end Go.Proofs.Ytffcegbcjkhnoaa.PC

/-! MBase -/
namespace Go.Proofs.Ytffcegbcjkhnoaa.Pure
open Go.RowKit Go.Proofs.Ytffcegbcjkhnoaa.PC Go.Proofs.YtffcegbcjkhnoaaW.PrintWords Go.Proofs.YtffcegbcjkhnoaaW.PrintLast Go.Proofs.YtffcegbcjkhnoaaW.PrintMore
set_option linter.unusedVariables false
def DIG : ByteArray := (⟨#[48, 49, 50, 51, 52, 53, 54, 55, 56, 57, 97, 98, 99, 100, 102, 103, 104, 105, 106, 107, 108, 109, 110, 112, 113, 114, 115, 118, 119, 120, 121, 122]⟩ : ByteArray)
def dch (d : Nat) : Int := bt DIG (d : Int)
theorem dch_at (d : Nat) (h : d < 32) : (0 ≤ dch d ∧ dch d ≤ 255) ∧ strings_IndexByte.f DIG (dch d) = some (d : Int) ∧ DIG.extract d (d + 1) = strOfNums [dch d] := by
  have h1 := bt_range DIG (d : Int)
  have h2 : ∀ d : Fin 32, strings_IndexByte.f DIG (dch d.val) = some ((d.val : Nat) : Int) := by decide +kernel
  have h3 : ∀ d : Fin 32, DIG.extract d.val (d.val + 1) = strOfNums [dch d.val] := by decide +kernel
  exact ⟨h1, h2 ⟨d, h⟩, h3 ⟨d, h⟩⟩
theorem ar_A (r x y : Nat) (hr : r < 8) (hx : x < 256) (hy : y < 256) : (x % 2 ^ r) ||| (((x / 2 ^ r + y * 2 ^ (8 - r)) % 32 * 2 ^ r) % 256) = x % 2 ^ (min 8 (r + 5)) := by
  rcases (show r = 0 ∨ r = 1 ∨ r = 2 ∨ r = 3 ∨ r = 4 ∨ r = 5 ∨ r = 6 ∨ r = 7 by omega) with rfl | rfl | rfl | rfl | rfl | rfl | rfl | rfl
  · rw [show min 8 (0 + 5) = 5 from rfl, show 8 - 0 = 8 from rfl]
    have e : ((x / 2 ^ 0 + y * 2 ^ 8) % 32 * 2 ^ 0) % 256 = 2 ^ 0 * ((x / 2 ^ 0 + y * 2 ^ 8) % 32 % 2 ^ 8) := by omega
    rw [Nat.or_comm, e, ← Nat.two_pow_add_eq_or_of_lt (Nat.mod_lt _ (Nat.two_pow_pos 0))]
    omega
  · rw [show min 8 (1 + 5) = 6 from rfl, show 8 - 1 = 7 from rfl]
    have e : ((x / 2 ^ 1 + y * 2 ^ 7) % 32 * 2 ^ 1) % 256 = 2 ^ 1 * ((x / 2 ^ 1 + y * 2 ^ 7) % 32 % 2 ^ 7) := by omega
    rw [Nat.or_comm, e, ← Nat.two_pow_add_eq_or_of_lt (Nat.mod_lt _ (Nat.two_pow_pos 1))]
    omega
  · rw [show min 8 (2 + 5) = 7 from rfl, show 8 - 2 = 6 from rfl]
    have e : ((x / 2 ^ 2 + y * 2 ^ 6) % 32 * 2 ^ 2) % 256 = 2 ^ 2 * ((x / 2 ^ 2 + y * 2 ^ 6) % 32 % 2 ^ 6) := by omega
    rw [Nat.or_comm, e, ← Nat.two_pow_add_eq_or_of_lt (Nat.mod_lt _ (Nat.two_pow_pos 2))]
    omega
  · rw [show min 8 (3 + 5) = 8 from rfl, show 8 - 3 = 5 from rfl]
    have e : ((x / 2 ^ 3 + y * 2 ^ 5) % 32 * 2 ^ 3) % 256 = 2 ^ 3 * ((x / 2 ^ 3 + y * 2 ^ 5) % 32 % 2 ^ 5) := by omega
    rw [Nat.or_comm, e, ← Nat.two_pow_add_eq_or_of_lt (Nat.mod_lt _ (Nat.two_pow_pos 3))]
    omega
  · rw [show min 8 (4 + 5) = 8 from rfl, show 8 - 4 = 4 from rfl]
    have e : ((x / 2 ^ 4 + y * 2 ^ 4) % 32 * 2 ^ 4) % 256 = 2 ^ 4 * ((x / 2 ^ 4 + y * 2 ^ 4) % 32 % 2 ^ 4) := by omega
    rw [Nat.or_comm, e, ← Nat.two_pow_add_eq_or_of_lt (Nat.mod_lt _ (Nat.two_pow_pos 4))]
    omega
  · rw [show min 8 (5 + 5) = 8 from rfl, show 8 - 5 = 3 from rfl]
    have e : ((x / 2 ^ 5 + y * 2 ^ 3) % 32 * 2 ^ 5) % 256 = 2 ^ 5 * ((x / 2 ^ 5 + y * 2 ^ 3) % 32 % 2 ^ 3) := by omega
    rw [Nat.or_comm, e, ← Nat.two_pow_add_eq_or_of_lt (Nat.mod_lt _ (Nat.two_pow_pos 5))]
    omega
  · rw [show min 8 (6 + 5) = 8 from rfl, show 8 - 6 = 2 from rfl]
    have e : ((x / 2 ^ 6 + y * 2 ^ 2) % 32 * 2 ^ 6) % 256 = 2 ^ 6 * ((x / 2 ^ 6 + y * 2 ^ 2) % 32 % 2 ^ 2) := by omega
    rw [Nat.or_comm, e, ← Nat.two_pow_add_eq_or_of_lt (Nat.mod_lt _ (Nat.two_pow_pos 6))]
    omega
  · rw [show min 8 (7 + 5) = 8 from rfl, show 8 - 7 = 1 from rfl]
    have e : ((x / 2 ^ 7 + y * 2 ^ 1) % 32 * 2 ^ 7) % 256 = 2 ^ 7 * ((x / 2 ^ 7 + y * 2 ^ 1) % 32 % 2 ^ 1) := by omega
    rw [Nat.or_comm, e, ← Nat.two_pow_add_eq_or_of_lt (Nat.mod_lt _ (Nat.two_pow_pos 7))]
    omega
theorem ar_B (r x y : Nat) (hr : r < 8) (hx : x < 256) (hy : y < 256) : ((x / 2 ^ r + y * 2 ^ (8 - r)) % 32 * 2 ^ r) / 256 % 256 = y % 2 ^ (r + 5 - 8) := by
  rcases (show r = 0 ∨ r = 1 ∨ r = 2 ∨ r = 3 ∨ r = 4 ∨ r = 5 ∨ r = 6 ∨ r = 7 by omega) with rfl | rfl | rfl | rfl | rfl | rfl | rfl | rfl
  · rw [show 0 + 5 - 8 = 0 from rfl, show 8 - 0 = 8 from rfl]
    omega
  · rw [show 1 + 5 - 8 = 0 from rfl, show 8 - 1 = 7 from rfl]
    omega
  · rw [show 2 + 5 - 8 = 0 from rfl, show 8 - 2 = 6 from rfl]
    omega
  · rw [show 3 + 5 - 8 = 0 from rfl, show 8 - 3 = 5 from rfl]
    omega
  · rw [show 4 + 5 - 8 = 1 from rfl, show 8 - 4 = 4 from rfl]
    omega
  · rw [show 5 + 5 - 8 = 2 from rfl, show 8 - 5 = 3 from rfl]
    omega
  · rw [show 6 + 5 - 8 = 3 from rfl, show 8 - 6 = 2 from rfl]
    omega
  · rw [show 7 + 5 - 8 = 4 from rfl, show 8 - 7 = 1 from rfl]
    omega
def bitV (x y r k : Nat) : Nat := if r + k < 8 then x / 2 ^ (r + k) % 2 else y / 2 ^ (r + k - 8) % 2
theorem ar_C (r x y : Nat) (hr : r < 8) (hx : x < 256) (hy : y < 256) : 2 * (2 * (2 * (2 * (2 * 0 + bitV x y r 4) + bitV x y r 3) + bitV x y r 2) + bitV x y r 1) + bitV x y r 0 = (x / 2 ^ r + y * 2 ^ (8 - r)) % 32 := by
  rcases (show r = 0 ∨ r = 1 ∨ r = 2 ∨ r = 3 ∨ r = 4 ∨ r = 5 ∨ r = 6 ∨ r = 7 by omega) with rfl | rfl | rfl | rfl | rfl | rfl | rfl | rfl
  · rw [show 8 - 0 = 8 from rfl]
    simp only [bitV]
    rw [if_pos (show 0 + 4 < 8 by decide), if_pos (show 0 + 3 < 8 by decide), if_pos (show 0 + 2 < 8 by decide), if_pos (show 0 + 1 < 8 by decide), if_pos (show 0 + 0 < 8 by decide)]
    omega
  · rw [show 8 - 1 = 7 from rfl]
    simp only [bitV]
    rw [if_pos (show 1 + 4 < 8 by decide), if_pos (show 1 + 3 < 8 by decide), if_pos (show 1 + 2 < 8 by decide), if_pos (show 1 + 1 < 8 by decide), if_pos (show 1 + 0 < 8 by decide)]
    omega
  · rw [show 8 - 2 = 6 from rfl]
    simp only [bitV]
    rw [if_pos (show 2 + 4 < 8 by decide), if_pos (show 2 + 3 < 8 by decide), if_pos (show 2 + 2 < 8 by decide), if_pos (show 2 + 1 < 8 by decide), if_pos (show 2 + 0 < 8 by decide)]
    omega
  · rw [show 8 - 3 = 5 from rfl]
    simp only [bitV]
    rw [if_pos (show 3 + 4 < 8 by decide), if_pos (show 3 + 3 < 8 by decide), if_pos (show 3 + 2 < 8 by decide), if_pos (show 3 + 1 < 8 by decide), if_pos (show 3 + 0 < 8 by decide)]
    omega
  · rw [show 8 - 4 = 4 from rfl]
    simp only [bitV]
    rw [if_neg (show ¬ 4 + 4 < 8 by decide), if_pos (show 4 + 3 < 8 by decide), if_pos (show 4 + 2 < 8 by decide), if_pos (show 4 + 1 < 8 by decide), if_pos (show 4 + 0 < 8 by decide)]
    omega
  · rw [show 8 - 5 = 3 from rfl]
    simp only [bitV]
    rw [if_neg (show ¬ 5 + 4 < 8 by decide), if_neg (show ¬ 5 + 3 < 8 by decide), if_pos (show 5 + 2 < 8 by decide), if_pos (show 5 + 1 < 8 by decide), if_pos (show 5 + 0 < 8 by decide)]
    omega
  · rw [show 8 - 6 = 2 from rfl]
    simp only [bitV]
    rw [if_neg (show ¬ 6 + 4 < 8 by decide), if_neg (show ¬ 6 + 3 < 8 by decide), if_neg (show ¬ 6 + 2 < 8 by decide), if_pos (show 6 + 1 < 8 by decide), if_pos (show 6 + 0 < 8 by decide)]
    omega
  · rw [show 8 - 7 = 1 from rfl]
    simp only [bitV]
    rw [if_neg (show ¬ 7 + 4 < 8 by decide), if_neg (show ¬ 7 + 3 < 8 by decide), if_neg (show ¬ 7 + 2 < 8 by decide), if_neg (show ¬ 7 + 1 < 8 by decide), if_pos (show 7 + 0 < 8 by decide)]
    omega
theorem ofInt64 (a : Nat) (ha : a < 9223372036854775808) : (BitVec.ofInt 64 (a : Int)).toNat = a := by
  rw [BitVec.ofInt_natCast, BitVec.toNat_ofNat]
  exact Nat.mod_eq_of_lt (by omega)
theorem or64 (a b : Nat) (ha : a < 1048576) (hb : b < 1048576) : Go.bits .or .i64 (a : Int) (b : Int) = ((a ||| b : Nat) : Int) := by
  have hx : a ||| b < 2 ^ 20 := Nat.or_lt_two_pow (by omega) (by omega)
  show IntKind.i64.wrap ((BitVec.ofInt 64 (a : Int) ||| BitVec.ofInt 64 (b : Int)).toNat : Int) = _
  rw [BitVec.toNat_or, ofInt64 a (by omega), ofInt64 b (by omega), i64_w, w64n (by omega) (by omega)]
theorem and64 (a b : Nat) (ha : a < 1048576) (hb : b < 1048576) : Go.bits .and .i64 (a : Int) (b : Int) = ((a &&& b : Nat) : Int) := by
  have hx : a &&& b < 2 ^ 20 := Nat.and_lt_two_pow _ (by omega)
  show IntKind.i64.wrap ((BitVec.ofInt 64 (a : Int) &&& BitVec.ofInt 64 (b : Int)).toNat : Int) = _
  rw [BitVec.toNat_and, ofInt64 a (by omega), ofInt64 b (by omega), i64_w, w64n (by omega) (by omega)]
theorem or8 (a b : Nat) (ha : a < 256) (hb : b < 256) : Go.bits .or .u8 (a : Int) (b : Int) = ((a ||| b : Nat) : Int) := by
  have hx : a ||| b < 2 ^ 8 := Nat.or_lt_two_pow (by omega) (by omega)
  show IntKind.u8.wrap ((BitVec.ofInt 8 (a : Int) ||| BitVec.ofInt 8 (b : Int)).toNat : Int) = _
  rw [BitVec.toNat_or, ofInt8 a ha, ofInt8 b hb, wrap_u8]
  omega
theorem shl64 (a k : Nat) (ha : a < 256) (hk : k ≤ 8) : shl .i64 (a : Int) (k : Int) = ((a * 2 ^ k : Nat) : Int) := by
  have h1 : a * 2 ^ k ≤ 255 * 2 ^ 8 := Nat.mul_le_mul (by omega) (Nat.pow_le_pow_right (by decide) hk)
  unfold shl
  rw [Int.toNat_natCast, show min k IntKind.i64.bits = k by simp only [IntKind.bits]; omega, show (a : Int) * 2 ^ k = ((a * 2 ^ k : Nat) : Int) by rw [Int.natCast_mul, Int.natCast_pow]; rfl, i64_w, w64n (by omega) (by omega)]
theorem shr64 (a k : Nat) (hk : k ≤ 8) : shr .i64 (a : Int) (k : Int) = ((a / 2 ^ k : Nat) : Int) := by
  unfold shr
  rw [Int.toNat_natCast, show min k IntKind.i64.bits = k by simp only [IntKind.bits]; omega, Int.natCast_ediv, Int.natCast_pow]
  rfl
/-- Digit i, from the lowest. -/
def dg (c : List Int) (i : Nat) : Nat := (bn c (5 * i / 8) / 2 ^ (5 * i % 8) + bn c (5 * i / 8 + 1) * 2 ^ (8 - 5 * i % 8)) % 32
theorem dg_lt (c : List Int) (i : Nat) : dg c i < 32 := Nat.mod_lt _ (by decide)
theorem and31 (x : Nat) : x &&& 31 = x % 32 := Nat.and_two_pow_sub_one_eq_mod x 5
theorem dig_or (r x y : Nat) (hr : r < 8) (hx : x < 256) (hy : y < 256) : Go.bits .and .i64 (Go.bits .or .i64 (shr .i64 (x : Int) (r : Int)) (shl .i64 (y : Int) ((8 - r : Nat) : Int))) 31 = (((x / 2 ^ r + y * 2 ^ (8 - r)) % 32 : Nat) : Int) := by
  have h1 : x / 2 ^ r < 2 ^ (8 - r) := by
    rw [Nat.div_lt_iff_lt_mul (Nat.two_pow_pos r), ← Nat.pow_add, show 8 - r + r = 8 by omega]
    omega
  have h2 : y * 2 ^ (8 - r) ≤ 255 * 2 ^ 8 := Nat.mul_le_mul (by omega) (Nat.pow_le_pow_right (by decide) (by omega))
  have h3 : x / 2 ^ r ≤ x := Nat.div_le_self _ _
  rw [shr64 x r (by omega), shl64 y (8 - r) hy (by omega), or64 _ _ (by omega) (by omega), Nat.or_comm, Nat.mul_comm y, ← Nat.two_pow_add_eq_or_of_lt h1, show (31 : Int) = ((31 : Nat) : Int) from rfl, and64 _ _ (by rw [Nat.mul_comm]; omega) (by omega), and31, Nat.add_comm]
theorem dig_one (r x : Nat) (hr : r < 8) (hx : x < 256) : Go.bits .and .i64 (shr .i64 (x : Int) (r : Int)) 31 = (((x / 2 ^ r + 0 * 2 ^ (8 - r)) % 32 : Nat) : Int) := by
  have h3 : x / 2 ^ r ≤ x := Nat.div_le_self _ _
  rw [shr64 x r (by omega), show (31 : Int) = ((31 : Nat) : Int) from rfl, and64 _ _ (by omega) (by omega), and31, Nat.zero_mul, Nat.add_zero]
def encP (c : List Int) (i : Nat) : List Int := (List.range 32).map fun j => if 32 ≤ j + i then dch (dg c (31 - j)) else 0
theorem encP_length (c : List Int) (i : Nat) : (encP c i).length = 32 := by simp [encP]
theorem encP_set (c : List Int) (i : Nat) (h : i < 32) : (encP c i).set (31 - i) (dch (dg c i)) = encP c (i + 1) := by
  apply List.ext_getElem
  · rw [List.length_set, encP_length, encP_length]
  · intro j h1 h2
    rw [encP_length] at h2
    rw [List.getElem_set]
    simp only [encP, List.getElem_map, List.getElem_range]
    by_cases he : 31 - i = j
    · rw [if_pos he, if_pos (by omega), show 31 - j = i by omega]
    · rw [if_neg he]
      by_cases h3 : 32 ≤ j + i
      · rw [if_pos h3, if_pos (by omega)]
      · rw [if_neg h3, if_neg (by omega)]
theorem encP_zero (c : List Int) : List.replicate 32 (0 : Int) = encP c 0 := by
  apply List.ext_getElem
  · rw [List.length_replicate, encP_length]
  · intro j h1 h2
    rw [encP_length] at h2
    simp only [encP, List.getElem_map, List.getElem_range, List.getElem_replicate]
    rw [if_neg (by omega)]
theorem encP_byt (c : List Int) (i : Nat) : Byt (encP c i) := by
  intro x hx
  obtain ⟨j, _, rfl⟩ := List.mem_map.1 hx
  split
  · exact (dch_at _ (dg_lt c _)).1
  · exact ⟨by decide, by decide⟩
theorem enc_l0 (c : List Int) (hb : Byt c) (h20 : c.length = 20) (m : Nat) : ∀ (i fuel : Nat), i + m = 32 → m + 1 ≤ fuel → base_Encode.l0 fuel c 32 (encP c i) 32 i = some (strOfNums (encP c 32)) := by
  induction m with
  | zero =>
    intro i fuel hi hf
    obtain ⟨f, rfl⟩ : ∃ f, fuel = f + 1 := ⟨fuel - 1, by omega⟩
    obtain rfl : i = 32 := by omega
    rw [base_Encode.l0, if_neg (by decide)]
  | succ m ih =>
    intro i fuel hi hf
    obtain ⟨f, rfl⟩ : ∃ f, fuel = f + 1 := ⟨fuel - 1, by omega⟩
    have hq : wrap64 (Int.tdiv (wrap64 (5 * (i : Int))) 8) = ((5 * i / 8 : Nat) : Int) := by
      rw [w64n (n := 5 * (i : Int)) (by omega) (by omega), Int.tdiv_eq_ediv_of_nonneg (by omega), w64n (by omega) (by omega)]
      omega
    have hr : Int.tmod (wrap64 (5 * (i : Int))) 8 = ((5 * i % 8 : Nat) : Int) := by
      rw [w64n (n := 5 * (i : Int)) (by omega) (by omega), Int.tmod_eq_emod_of_nonneg (by omega)]
      omega
    have hj : wrap64 (wrap64 (32 - 1) - (i : Int)) = ((31 - i : Nat) : Int) := by
      rw [w64n (n := 32 - 1) (by decide) (by decide), w64n (by omega) (by omega)]
      omega
    obtain ⟨e1, h1⟩ := bn_rd hb (5 * i / 8)
    obtain ⟨e2, h2⟩ := bn_rd hb (5 * i / 8 + 1)
    have hd := dg_lt c i
    have hset := encP_set c i (by omega)
    unfold dch at hset
    rw [base_Encode.l0, if_pos (by omega), hq, hr, if_pos (by omega), if_pos (by omega), if_pos (by omega)]
    by_cases hl : 5 * i / 8 + 1 < 20
    · have hv := dig_or (5 * i % 8) (bn c (5 * i / 8)) (bn c (5 * i / 8 + 1)) (by omega) h1 h2
      rw [w64n (n := ((5 * i / 8 : Nat) : Int) + 1) (by omega) (by omega), if_pos (by omega), if_pos (by omega), w64n (n := 8 - ((5 * i % 8 : Nat) : Int)) (by omega) (by omega), if_pos (by omega), e1, show ((5 * i / 8 : Nat) : Int) + 1 = ((5 * i / 8 + 1 : Nat) : Int) by omega, e2,
        w64n (n := ((bn c (5 * i / 8) : Nat) : Int)) (by omega) (by omega), w64n (n := ((bn c (5 * i / 8 + 1) : Nat) : Int)) (by omega) (by omega), show 8 - ((5 * i % 8 : Nat) : Int) = ((8 - 5 * i % 8 : Nat) : Int) by omega, hv]
      rw [show (bn c (5 * i / 8) / 2 ^ (5 * i % 8) + bn c (5 * i / 8 + 1) * 2 ^ (8 - 5 * i % 8)) % 32 = dg c i from rfl, if_pos (by omega), if_pos (by omega), hj, if_pos (by omega), if_pos (by rw [encP_length]; omega), Int.toNat_natCast, w64n (by omega) (by omega)]
      rw [show (⟨#[48, 49, 50, 51, 52, 53, 54, 55, 56, 57, 97, 98, 99, 100, 102, 103, 104, 105, 106, 107, 108, 109, 110, 112, 113, 114, 115, 118, 119, 120, 121, 122]⟩ : ByteArray) = DIG from rfl, hset]
      exact ih (i + 1) f (by omega) (by omega)
    · have hq19 : 5 * i / 8 + 1 = 20 := by omega
      have hv := dig_one (5 * i % 8) (bn c (5 * i / 8)) (by omega) h1
      rw [w64n (n := ((5 * i / 8 : Nat) : Int) + 1) (by omega) (by omega), if_neg (by omega), e1, w64n (n := ((bn c (5 * i / 8) : Nat) : Int)) (by omega) (by omega), hv]
      rw [show (bn c (5 * i / 8) / 2 ^ (5 * i % 8) + 0 * 2 ^ (8 - 5 * i % 8)) % 32 = dg c i by rw [dg, bn_none c (5 * i / 8 + 1) (by omega)], if_pos (by omega), if_pos (by omega), hj, if_pos (by omega), if_pos (by rw [encP_length]; omega), Int.toNat_natCast, w64n (by omega) (by omega)]
      rw [show (⟨#[48, 49, 50, 51, 52, 53, 54, 55, 56, 57, 97, 98, 99, 100, 102, 103, 104, 105, 106, 107, 108, 109, 110, 112, 113, 114, 115, 118, 119, 120, 121, 122]⟩ : ByteArray) = DIG from rfl, hset]
      exact ih (i + 1) f (by omega) (by omega)
theorem enc_f (c : List Int) (hb : Byt c) (h20 : c.length = 20) (fuel : Nat) (hf : 40 ≤ fuel) : base_Encode.f fuel c = some (strOfNums (encP c 32)) := by
  have hs : base_size.f ((c.length : Nat) : Int) = some 32 := by rw [h20]; decide +kernel
  rw [base_Encode.f, hs, Option.bind_some, if_pos (by decide), if_pos (by decide), show (32 : Int).toNat = 32 from rfl, encP_zero c]
  exact enc_l0 c hb h20 32 0 fuel (by omega) (by omega)
end Go.Proofs.Ytffcegbcjkhnoaa.Pure

/-! MBaseB -/
namespace Go.Proofs.Ytffcegbcjkhnoaa.Pure
open Go.RowKit Go.Proofs.Ytffcegbcjkhnoaa.PC Go.Proofs.YtffcegbcjkhnoaaW.PrintWords Go.Proofs.YtffcegbcjkhnoaaW.PrintLast Go.Proofs.YtffcegbcjkhnoaaW.PrintMore
set_option linter.unusedVariables false
theorem str_app (l m : List Int) : strOfNums l ++ strOfNums m = strOfNums (l ++ m) := by
  apply ByteArray.ext
  rw [ByteArray.data_append]
  simp [strOfNums]
theorem str_size (l : List Int) : (strOfNums l).size = l.length := by
  show (strOfNums l).data.size = _
  simp [strOfNums]
def refL (c : List Int) (i : Nat) : List Int := (List.range i).map fun j => dch (dg c (i - 1 - j))
theorem refL_length (c : List Int) (i : Nat) : (refL c i).length = i := by simp [refL]
theorem refL_succ (c : List Int) (i : Nat) : [dch (dg c i)] ++ refL c i = refL c (i + 1) := by
  apply List.ext_getElem
  · simp [refL_length]
  · intro j h1 h2
    rw [refL_length] at h2
    cases j with
    | zero => simp [refL]
    | succ j =>
      simp only [refL, List.cons_append, List.nil_append, List.getElem_cons_succ, List.getElem_map, List.getElem_range]
      rw [show i + 1 - 1 - (j + 1) = i - 1 - j by omega]
theorem refL_all (c : List Int) : refL c 32 = encP c 32 := by
  apply List.ext_getElem
  · rw [refL_length, encP_length]
  · intro j h1 h2
    rw [refL_length] at h1
    simp only [refL, encP, List.getElem_map, List.getElem_range]
    rw [if_pos (by omega)]
theorem bit_l0 (a x m : Nat) (hx : x < 256) : ∀ (i fuel : Nat), i + m = a % 8 → m + 1 ≤ fuel → chandleryref02_bit.l0 fuel a ((x / 2 ^ i : Nat) : Int) i = some ((x / 2 ^ (a % 8) % 2 : Nat) : Int) := by
  have hm : Int.tmod (a : Int) 8 = ((a % 8 : Nat) : Int) := by rw [Int.tmod_eq_emod_of_nonneg (by omega)]; rfl
  induction m with
  | zero =>
    intro i fuel hi hf
    obtain ⟨f, rfl⟩ : ∃ f, fuel = f + 1 := ⟨fuel - 1, by omega⟩
    rw [chandleryref02_bit.l0, hm, if_neg (by omega), tm2, show i = a % 8 by omega]
  | succ m ih =>
    intro i fuel hi hf
    obtain ⟨f, rfl⟩ : ∃ f, fuel = f + 1 := ⟨fuel - 1, by omega⟩
    have h3 : x / 2 ^ i ≤ x := Nat.div_le_self _ _
    rw [chandleryref02_bit.l0, hm, if_pos (by omega), half _ (by omega), Nat.div_div_eq_div_mul, ← Nat.pow_succ, w64n (by omega) (by omega)]
    exact ih (i + 1) f (by omega) (by omega)
theorem bit_f (c : List Int) (hb : Byt c) (h20 : c.length = 20) (a fuel : Nat) (ha : a < 160) (hf : 10 ≤ fuel) : chandleryref02_bit.f fuel c a = some ((bn c (a / 8) / 2 ^ (a % 8) % 2 : Nat) : Int) := by
  obtain ⟨e1, h1⟩ := bn_rd hb (a / 8)
  have hq : wrap64 (Int.tdiv (a : Int) 8) = ((a / 8 : Nat) : Int) := by
    rw [Int.tdiv_eq_ediv_of_nonneg (by omega), w64n (by omega) (by omega)]
    rfl
  rw [chandleryref02_bit.f, h20, w64n (n := 8 * ((20 : Nat) : Int)) (by decide) (by decide), if_neg (by omega), hq, if_pos (by omega), if_pos (by omega), e1, w64n (by omega) (by omega)]
  have h := bit_l0 a (bn c (a / 8)) (a % 8) h1 0 fuel (by omega) (by omega)
  rw [Nat.pow_zero, Nat.div_one] at h
  exact h
theorem bit_V (c : List Int) (i k : Nat) (hk : k < 5) : bn c ((5 * i + k) / 8) / 2 ^ ((5 * i + k) % 8) % 2 = bitV (bn c (5 * i / 8)) (bn c (5 * i / 8 + 1)) (5 * i % 8) k := by
  unfold bitV
  by_cases h : 5 * i % 8 + k < 8
  · rw [if_pos h, show (5 * i + k) / 8 = 5 * i / 8 by omega, show (5 * i + k) % 8 = 5 * i % 8 + k by omega]
  · rw [if_neg h, show (5 * i + k) / 8 = 5 * i / 8 + 1 by omega, show (5 * i + k) % 8 = 5 * i % 8 + k - 8 by omega]
theorem bitV_le (x y r k : Nat) : bitV x y r k ≤ 1 := by
  unfold bitV
  split <;> omega
theorem l1_step (c : List Int) (hb : Byt c) (h20 : c.length = 20) (i : Nat) (hi : i < 32) (s : ByteArray) (n k f : Nat) (hn : n < 16) (hk : k < 5) (hf : 10 ≤ f) :
    chandleryref02_Encode.l1 (f + 1) c s i n k = chandleryref02_Encode.l1 f c s i ((2 * n + bitV (bn c (5 * i / 8)) (bn c (5 * i / 8 + 1)) (5 * i % 8) k : Nat) : Int) ((k : Int) - 1) := by
  have hv := bitV_le (bn c (5 * i / 8)) (bn c (5 * i / 8 + 1)) (5 * i % 8) k
  rw [chandleryref02_Encode.l1, if_pos (by omega), show wrap64 (wrap64 (5 * (i : Int)) + (k : Int)) = ((5 * i + k : Nat) : Int) by rw [w64n (n := 5 * (i : Int)) (by omega) (by omega), w64n (by omega) (by omega)]; omega,
    bit_f c hb h20 (5 * i + k) f (by omega) hf, Option.bind_some, bit_V c i k hk, w64n (n := 2 * (n : Int)) (by omega) (by omega), w64n (n := 2 * (n : Int) + _) (by omega) (by omega), w64n (n := (k : Int) - 1) (by omega) (by omega)]
  congr 1
theorem ref_enc_l0 (c : List Int) (hb : Byt c) (h20 : c.length = 20) (m : Nat) : ∀ (i fuel : Nat), i + m = 32 → 20 + 7 * m ≤ fuel → chandleryref02_Encode.l0 fuel c (strOfNums (refL c i)) i = some (strOfNums (refL c 32)) := by
  have hs : chandleryref02_Size.f ((c.length : Nat) : Int) = some 32 := by rw [h20]; decide +kernel
  induction m with
  | zero =>
    intro i fuel hi hf
    obtain ⟨f, rfl⟩ : ∃ f, fuel = f + 1 := ⟨fuel - 1, by omega⟩
    obtain rfl : i = 32 := by omega
    rw [chandleryref02_Encode.l0, hs, Option.bind_some, if_neg (by decide)]
  | succ m ih =>
    intro i fuel hi hf
    obtain ⟨f, rfl⟩ : ∃ f, fuel = f + 7 := ⟨fuel - 7, by omega⟩
    rw [chandleryref02_Encode.l0, hs, Option.bind_some, if_pos (by omega)]
    have b4 := bitV_le (bn c (5 * i / 8)) (bn c (5 * i / 8 + 1)) (5 * i % 8) 4
    have b3 := bitV_le (bn c (5 * i / 8)) (bn c (5 * i / 8 + 1)) (5 * i % 8) 3
    have b2 := bitV_le (bn c (5 * i / 8)) (bn c (5 * i / 8 + 1)) (5 * i % 8) 2
    have b1 := bitV_le (bn c (5 * i / 8)) (bn c (5 * i / 8 + 1)) (5 * i % 8) 1
    have b0 := bitV_le (bn c (5 * i / 8)) (bn c (5 * i / 8 + 1)) (5 * i % 8) 0
    have hC := ar_C (5 * i % 8) (bn c (5 * i / 8)) (bn c (5 * i / 8 + 1)) (by omega) (bn_rd hb _).2 (bn_rd hb _).2
    rw [show (bn c (5 * i / 8) / 2 ^ (5 * i % 8) + bn c (5 * i / 8 + 1) * 2 ^ (8 - 5 * i % 8)) % 32 = dg c i from rfl] at hC
    have s4 := l1_step c hb h20 i (by omega) (strOfNums (refL c i)) 0 4 (f + 5) (by omega) (by omega) (by omega)
    rw [show ((0 : Nat) : Int) = 0 from rfl, show ((4 : Nat) : Int) = 4 from rfl, show (4 : Int) - 1 = ((3 : Nat) : Int) from rfl] at s4
    have s3 := l1_step c hb h20 i (by omega) (strOfNums (refL c i)) (2 * 0 + bitV (bn c (5 * i / 8)) (bn c (5 * i / 8 + 1)) (5 * i % 8) 4) 3 (f + 4) (by omega) (by omega) (by omega)
    rw [show ((3 : Nat) : Int) - 1 = ((2 : Nat) : Int) from rfl] at s3
    have s2 := l1_step c hb h20 i (by omega) (strOfNums (refL c i)) (2 * (2 * 0 + bitV (bn c (5 * i / 8)) (bn c (5 * i / 8 + 1)) (5 * i % 8) 4) + bitV (bn c (5 * i / 8)) (bn c (5 * i / 8 + 1)) (5 * i % 8) 3) 2 (f + 3) (by omega) (by omega) (by omega)
    rw [show ((2 : Nat) : Int) - 1 = ((1 : Nat) : Int) from rfl] at s2
    have s1 := l1_step c hb h20 i (by omega) (strOfNums (refL c i)) (2 * (2 * (2 * 0 + bitV (bn c (5 * i / 8)) (bn c (5 * i / 8 + 1)) (5 * i % 8) 4) + bitV (bn c (5 * i / 8)) (bn c (5 * i / 8 + 1)) (5 * i % 8) 3) + bitV (bn c (5 * i / 8)) (bn c (5 * i / 8 + 1)) (5 * i % 8) 2) 1 (f + 2) (by omega) (by omega) (by omega)
    rw [show ((1 : Nat) : Int) - 1 = ((0 : Nat) : Int) from rfl] at s1
    have s0 := l1_step c hb h20 i (by omega) (strOfNums (refL c i)) (2 * (2 * (2 * (2 * 0 + bitV (bn c (5 * i / 8)) (bn c (5 * i / 8 + 1)) (5 * i % 8) 4) + bitV (bn c (5 * i / 8)) (bn c (5 * i / 8 + 1)) (5 * i % 8) 3) + bitV (bn c (5 * i / 8)) (bn c (5 * i / 8 + 1)) (5 * i % 8) 2) + bitV (bn c (5 * i / 8)) (bn c (5 * i / 8 + 1)) (5 * i % 8) 1) 0 (f + 1) (by omega) (by omega) (by omega)
    rw [hC] at s0
    refine (s4.trans (s3.trans (s2.trans (s1.trans s0)))).trans ?_
    have hd := dg_lt c i
    have hsz := str_size (refL c i)
    rw [refL_length] at hsz
    rw [chandleryref02_Encode.l1, if_neg (by omega), if_pos (by omega), w64n (n := ((dg c i : Nat) : Int) + 1) (by omega) (by omega), if_pos (by omega), if_pos (by omega), Int.toNat_natCast, show (((dg c i : Nat) : Int) + 1).toNat = dg c i + 1 by omega,
      show (⟨#[48, 49, 50, 51, 52, 53, 54, 55, 56, 57, 97, 98, 99, 100, 102, 103, 104, 105, 106, 107, 108, 109, 110, 112, 113, 114, 115, 118, 119, 120, 121, 122]⟩ : ByteArray) = DIG from rfl, (dch_at _ hd).2.2, if_pos (by rw [str_size, hsz]; simp only [List.length_cons, List.length_nil]; omega), str_app, refL_succ, w64n (by omega) (by omega)]
    exact ih (i + 1) f (by omega) (by omega)
theorem ref_enc (c : List Int) (hb : Byt c) (h20 : c.length = 20) (fuel : Nat) (hf : 300 ≤ fuel) : chandleryref02_Encode.f fuel c = some (strOfNums (encP c 32)) := by
  rw [← refL_all, chandleryref02_Encode.f]
  exact ref_enc_l0 c hb h20 32 0 fuel (by omega) (by omega)
/-! Read back -/
def oS (c : List Int) (i : Nat) : List Int := (List.range 20).map fun j => ((bn c j % 2 ^ (min 8 (5 * i - 8 * j)) : Nat) : Int)
theorem oS_length (c : List Int) (i : Nat) : (oS c i).length = 20 := by simp [oS]
theorem oS_rd (c : List Int) (i j : Nat) (h : j < 20) : rd (oS c i) (j : Int) = ((bn c j % 2 ^ (min 8 (5 * i - 8 * j)) : Nat) : Int) := by
  simp [rd, oS, h, List.getD_eq_getElem?_getD]
theorem oS_zero (c : List Int) : List.replicate 20 (0 : Int) = oS c 0 := by
  apply List.ext_getElem
  · rw [List.length_replicate, oS_length]
  · intro j h1 h2
    rw [List.getElem_replicate]
    simp [oS, Nat.mod_one]
theorem oS_all (c : List Int) (hb : Byt c) (h20 : c.length = 20) : oS c 32 = c := by
  apply List.ext_getElem
  · rw [oS_length, h20]
  · intro j h1 h2
    obtain ⟨e1, h3⟩ := bn_rd hb j
    simp only [oS, List.getElem_map, List.getElem_range]
    rw [show min 8 (5 * 32 - 8 * j) = 8 by omega, Nat.mod_eq_of_lt (by omega), ← e1, rd, Int.toNat_natCast, List.getD_eq_getElem?_getD, List.getElem?_eq_getElem h2]
    rfl
theorem wide_lt (d r : Nat) (hd : d < 32) (hr : r < 8) : d * 2 ^ r ≤ 31 * 2 ^ 7 := Nat.mul_le_mul (by omega) (Nat.pow_le_pow_right (by decide) (by omega))
theorem oS_step (c : List Int) (hb : Byt c) (i : Nat) (hi : i < 32) (hq : 5 * i / 8 + 1 < 20) :
    ((oS c i).set (5 * i / 8) (Go.bits .or .u8 (rd (oS c i) ((5 * i / 8 : Nat) : Int)) (((dg c i * 2 ^ (5 * i % 8) : Nat) : Int) % 256))).set (5 * i / 8 + 1)
      (Go.bits .or .u8 (rd ((oS c i).set (5 * i / 8) (Go.bits .or .u8 (rd (oS c i) ((5 * i / 8 : Nat) : Int)) (((dg c i * 2 ^ (5 * i % 8) : Nat) : Int) % 256))) ((5 * i / 8 + 1 : Nat) : Int)) (((dg c i * 2 ^ (5 * i % 8) : Nat) : Int) / 256 % 256)) = oS c (i + 1) := by
  have hx := (bn_rd hb (5 * i / 8)).2
  have hy := (bn_rd hb (5 * i / 8 + 1)).2
  have hA := ar_A (5 * i % 8) (bn c (5 * i / 8)) (bn c (5 * i / 8 + 1)) (by omega) hx hy
  have hB := ar_B (5 * i % 8) (bn c (5 * i / 8)) (bn c (5 * i / 8 + 1)) (by omega) hx hy
  rw [show (bn c (5 * i / 8) / 2 ^ (5 * i % 8) + bn c (5 * i / 8 + 1) * 2 ^ (8 - 5 * i % 8)) % 32 = dg c i from rfl] at hA hB
  have hw := wide_lt (dg c i) (5 * i % 8) (dg_lt c i) (by omega)
  have hm : bn c (5 * i / 8) % 2 ^ (5 * i % 8) ≤ bn c (5 * i / 8) := Nat.mod_le _ _
  have r1 : rd (oS c i) ((5 * i / 8 : Nat) : Int) = ((bn c (5 * i / 8) % 2 ^ (5 * i % 8) : Nat) : Int) := by
    rw [oS_rd c i _ (by omega), show min 8 (5 * i - 8 * (5 * i / 8)) = 5 * i % 8 by omega]
  have v1 : Go.bits .or .u8 (rd (oS c i) ((5 * i / 8 : Nat) : Int)) (((dg c i * 2 ^ (5 * i % 8) : Nat) : Int) % 256) = ((bn c (5 * i / 8) % 2 ^ (min 8 (5 * i % 8 + 5)) : Nat) : Int) := by
    rw [r1, show ((dg c i * 2 ^ (5 * i % 8) : Nat) : Int) % 256 = ((dg c i * 2 ^ (5 * i % 8) % 256 : Nat) : Int) by omega, or8 _ _ (by omega) (by omega), hA]
  have r2 : ∀ v : Int, rd ((oS c i).set (5 * i / 8) v) ((5 * i / 8 + 1 : Nat) : Int) = 0 := fun v => by
    have h := oS_rd c i (5 * i / 8 + 1) hq
    rw [show min 8 (5 * i - 8 * (5 * i / 8 + 1)) = 0 by omega, Nat.pow_zero, Nat.mod_one] at h
    rw [rd, Int.toNat_natCast, List.getD_eq_getElem?_getD, List.getElem?_set_ne (by omega)]
    rw [rd, Int.toNat_natCast, List.getD_eq_getElem?_getD] at h
    exact h
  have v2 : Go.bits .or .u8 0 (((dg c i * 2 ^ (5 * i % 8) : Nat) : Int) / 256 % 256) = ((bn c (5 * i / 8 + 1) % 2 ^ (5 * i % 8 + 5 - 8) : Nat) : Int) := by
    rw [show ((dg c i * 2 ^ (5 * i % 8) : Nat) : Int) / 256 % 256 = ((dg c i * 2 ^ (5 * i % 8) / 256 % 256 : Nat) : Int) by omega, show (0 : Int) = ((0 : Nat) : Int) from rfl, or8 _ _ (by omega) (by omega), Nat.zero_or, hB]
  rw [v1, r2, v2]
  apply List.ext_getElem
  · rw [List.length_set, List.length_set, oS_length, oS_length]
  · intro j h1 h2
    rw [oS_length] at h2
    rw [List.getElem_set, List.getElem_set]
    simp only [oS, List.getElem_map, List.getElem_range]
    by_cases a1 : 5 * i / 8 + 1 = j
    · rw [if_pos a1, ← a1, show min 8 (5 * (i + 1) - 8 * (5 * i / 8 + 1)) = 5 * i % 8 + 5 - 8 by omega]
    · by_cases a2 : 5 * i / 8 = j
      · rw [if_neg a1, if_pos a2, ← a2, show min 8 (5 * (i + 1) - 8 * (5 * i / 8)) = min 8 (5 * i % 8 + 5) by omega]
      · rw [if_neg a1, if_neg a2, show min 8 (5 * (i + 1) - 8 * j) = min 8 (5 * i - 8 * j) by omega]
theorem oS_last (c : List Int) (hb : Byt c) (h20 : c.length = 20) (i : Nat) (hi : i < 32) (hq : ¬ 5 * i / 8 + 1 < 20) :
    (oS c i).set (5 * i / 8) (Go.bits .or .u8 (rd (oS c i) ((5 * i / 8 : Nat) : Int)) (((dg c i * 2 ^ (5 * i % 8) : Nat) : Int) % 256)) = oS c (i + 1) ∧ ((dg c i * 2 ^ (5 * i % 8) : Nat) : Int) / 256 = 0 := by
  have hq19 : 5 * i / 8 = 19 := by omega
  have hr3 : 5 * i % 8 = 3 := by omega
  have hx := (bn_rd hb 19).2
  have hA := ar_A 3 (bn c 19) (bn c 20) (by omega) hx (bn_rd hb 20).2
  have h0 := bn_none c 20 (by omega)
  have hd : dg c i = (bn c 19 / 2 ^ 3 + bn c 20 * 2 ^ (8 - 3)) % 32 := by rw [dg, hq19, hr3]
  rw [← hd] at hA
  rw [h0] at hd
  rw [hq19, hr3]
  generalize dg c i = d at *
  have hm : bn c 19 % 2 ^ 3 ≤ bn c 19 := Nat.mod_le _ _
  have r1 : rd (oS c i) ((19 : Nat) : Int) = ((bn c 19 % 2 ^ 3 : Nat) : Int) := by
    rw [oS_rd c i 19 (by omega), show min 8 (5 * i - 8 * 19) = 3 by omega]
  refine ⟨?_, by omega⟩
  have v1 : Go.bits .or .u8 (rd (oS c i) ((19 : Nat) : Int)) (((d * 2 ^ 3 : Nat) : Int) % 256) = ((bn c 19 % 2 ^ 8 : Nat) : Int) := by
    rw [r1, show ((d * 2 ^ 3 : Nat) : Int) % 256 = ((d * 2 ^ 3 % 256 : Nat) : Int) by omega, or8 _ _ (by omega) (by omega), hA, show min 8 (3 + 5) = 8 from rfl]
  rw [v1]
  apply List.ext_getElem
  · rw [List.length_set, oS_length, oS_length]
  · intro j h1 h2
    rw [oS_length] at h2
    rw [List.getElem_set]
    simp only [oS, List.getElem_map, List.getElem_range]
    by_cases a2 : 19 = j
    · rw [if_pos a2, ← a2, show min 8 (5 * (i + 1) - 8 * 19) = 8 by omega]
    · rw [if_neg a2, show min 8 (5 * (i + 1) - 8 * j) = min 8 (5 * i - 8 * j) by omega]
theorem dec_l0 (c : List Int) (hb : Byt c) (h20 : c.length = 20) (m : Nat) : ∀ (i fuel : Nat), i + m = 32 → m + 1 ≤ fuel → base_Decode.l0 fuel (strOfNums (encP c 32)) (oS c i) 32 i = some (c, 0) := by
  have hsz : (strOfNums (encP c 32)).size = 32 := by rw [str_size, encP_length]
  induction m with
  | zero =>
    intro i fuel hi hf
    obtain ⟨f, rfl⟩ : ∃ f, fuel = f + 1 := ⟨fuel - 1, by omega⟩
    obtain rfl : i = 32 := by omega
    rw [base_Decode.l0, if_neg (by decide), oS_all c hb h20]
  | succ m ih =>
    intro i fuel hi hf
    obtain ⟨f, rfl⟩ : ∃ f, fuel = f + 1 := ⟨fuel - 1, by omega⟩
    have hd := dg_lt c i
    have hw := wide_lt (dg c i) (5 * i % 8) hd (by omega)
    have hj : wrap64 (wrap64 (((strOfNums (encP c 32)).size : Int) - 1) - (i : Int)) = ((31 - i : Nat) : Int) := by
      rw [hsz, w64n (n := ((32 : Nat) : Int) - 1) (by decide) (by decide), w64n (by omega) (by omega)]
      omega
    have hbt : bt (strOfNums (encP c 32)) ((31 - i : Nat) : Int) = dch (dg c i) := by
      rw [← rd_bytesOf, bytes_str _ (encP_byt c 32), rd, Int.toNat_natCast, List.getD_eq_getElem?_getD, List.getElem?_eq_getElem (by rw [encP_length]; omega)]
      simp only [encP, List.getElem_map, List.getElem_range, Option.getD_some]
      rw [if_pos (by omega), show 31 - (31 - i) = i by omega]
    have hq : wrap64 (Int.tdiv (wrap64 (5 * (i : Int))) 8) = ((5 * i / 8 : Nat) : Int) := by
      rw [w64n (n := 5 * (i : Int)) (by omega) (by omega), Int.tdiv_eq_ediv_of_nonneg (by omega), w64n (by omega) (by omega)]
      omega
    have hr : Int.tmod (wrap64 (5 * (i : Int))) 8 = ((5 * i % 8 : Nat) : Int) := by
      rw [w64n (n := 5 * (i : Int)) (by omega) (by omega), Int.tmod_eq_emod_of_nonneg (by omega)]
      omega
    rw [base_Decode.l0, if_pos (by omega), hj, if_pos (by omega), if_pos (by omega), hbt, show (⟨#[48, 49, 50, 51, 52, 53, 54, 55, 56, 57, 97, 98, 99, 100, 102, 103, 104, 105, 106, 107, 108, 109, 110, 112, 113, 114, 115, 118, 119, 120, 121, 122]⟩ : ByteArray) = DIG from rfl, (dch_at _ hd).2.1, Option.bind_some, if_neg (by omega), hr, hq, if_pos (by omega), if_pos (by omega),
      if_pos (by rw [oS_length]; omega), shl64 _ _ (by omega) (by omega), Option.bind_some, Int.toNat_natCast, w64n (n := ((5 * i / 8 : Nat) : Int) + 1) (by omega) (by omega)]
    by_cases hl : 5 * i / 8 + 1 < 20
    · rw [if_pos (by rw [oS_length]; omega), if_pos (by omega), show ((5 * i / 8 : Nat) : Int) + 1 = ((5 * i / 8 + 1 : Nat) : Int) by omega, Int.toNat_natCast, oS_step c hb i (by omega) hl, w64n (by omega) (by omega)]
      exact ih (i + 1) f (by omega) (by omega)
    · obtain ⟨hs, hz⟩ := oS_last c hb h20 i (by omega) hl
      rw [if_neg (by rw [oS_length]; omega), hs, if_pos hz, w64n (by omega) (by omega)]
      exact ih (i + 1) f (by omega) (by omega)
theorem dec_f (c : List Int) (hb : Byt c) (h20 : c.length = 20) (fuel : Nat) (hf : 40 ≤ fuel) : base_Decode.f fuel (strOfNums (encP c 32)) = some (c, 0) := by
  have hsz : (strOfNums (encP c 32)).size = 32 := by rw [str_size, encP_length]
  have h1 : wrap64 (Int.tdiv (wrap64 (((32 : Nat) : Int) * 5)) 8) = 20 := by decide +kernel
  have h2 : base_size.f 20 = some 32 := by decide +kernel
  rw [base_Decode.f, hsz, h1, if_pos (by decide), if_pos (by decide), Option.bind_some, show (20 : Int).toNat = 20 from rfl, List.length_replicate, show ((20 : Nat) : Int) = 20 from rfl, h2, Option.bind_some, if_pos (by decide), oS_zero c]
  exact dec_l0 c hb h20 32 0 fuel (by omega) (by omega)
end Go.Proofs.Ytffcegbcjkhnoaa.Pure

/-! MSum -/
namespace Go.Proofs.Ytffcegbcjkhnoaa.Pure
open Go.RowKit Go.Proofs.Ytffcegbcjkhnoaa.PC Go.Proofs.YtffcegbcjkhnoaaW.PrintWords Go.Proofs.YtffcegbcjkhnoaaW.PrintLast
set_option linter.unusedVariables false
def allS (l : List Int) : List Int := l ++ padS l.length
theorem padS_len (n : Nat) : (padS n).length = 72 - (n + 8) % 64 := by
  simp [padS]
  omega
theorem allS_len (l : List Int) : ∃ N, (allS l).length = 64 * N ∧ 64 * N ≤ l.length + 72 := by
  have h := padS_len l.length
  refine ⟨(l.length + (72 - (l.length + 8) % 64)) / 64, ?_, ?_⟩
  · rw [allS, List.length_append, h]
    omega
  · omega
theorem blk_left (l m : List Int) (k : Nat) (h : 64 * k + 64 ≤ l.length) : blk (l ++ m) k = blk l k := by
  unfold blk
  rw [List.drop_append_of_le_length (by omega), List.take_append_of_le_length (by rw [List.length_drop]; omega)]
theorem takeK_left (st l m : List Int) : ∀ k, 64 * k ≤ l.length → takeK st (l ++ m) k = takeK st l k
  | 0, _ => rfl
  | k + 1, h => by rw [takeK, takeK, takeK_left st l m k (by omega), blk_left l m k (by omega)]
theorem takeK_shift (st l : List Int) (q : Nat) : ∀ m, takeK st l (q + m) = takeK (takeK st l q) (l.drop (64 * q)) m
  | 0 => rfl
  | m + 1 => by
    rw [← Nat.add_assoc, takeK, takeK, takeK_shift st l q m]
    congr 1
    unfold blk
    rw [List.drop_drop, show 64 * q + 64 * m = 64 * (q + m) by omega]
theorem sha_all (l : List Int) (N : Nat) (h : (allS l).length = 64 * N) : shaS l = outB (takeK startL (allS l) N) 8 := by
  unfold shaS stateS
  have hq : 64 * (l.length / 64) ≤ l.length := by omega
  have hd : (allS l).drop (64 * (l.length / 64)) = endS l := by
    unfold allS endS
    rw [List.drop_append_of_le_length hq]
  have hl : (endS l).length + 64 * (l.length / 64) = 64 * N := by
    rw [← hd, List.length_drop, h]
    have : (allS l).length = l.length + (padS l.length).length := by rw [allS, List.length_append]
    omega
  rw [show N = l.length / 64 + (endS l).length / 64 by omega, takeK_shift, hd]
  congr 2
  unfold allS
  rw [takeK_left _ _ _ _ hq]
theorem okW_of {l : List Int} (h : ∀ x ∈ l, U x) : okW l = true := List.all_eq_true.2 fun x hx => decide_eq_true (h x hx)
theorem okB_of {l : List Int} (h : ∀ x ∈ l, U8 x) : okB l = true := List.all_eq_true.2 fun x hx => decide_eq_true (h x hx)
theorem U_start : ∀ x ∈ startL, U x := by
  have : ∀ x ∈ startL, 0 ≤ x ∧ x < 4294967296 := by decide
  exact this
theorem U_takeK {st : List Int} (h : ∀ x ∈ st, U x) (l : List Int) : ∀ k, ∀ x ∈ takeK st l k, U x
  | 0 => h
  | k + 1 => U_mixS _ _
theorem mem_blk {l : List Int} {k : Nat} {x : Int} (h : x ∈ blk l k) : x ∈ l := List.mem_of_mem_drop (List.mem_of_mem_take h)
theorem padS_U8 (n : Int) : ∀ x ∈ padS n, U8 x := by
  intro x hx
  unfold padS at hx
  rcases List.mem_append.1 hx with h | h
  · rcases List.mem_or_eq_of_mem_set h with h | h
    · rw [(List.mem_replicate.1 h).2]
      exact ⟨by decide, by decide⟩
    · rw [h]
      exact ⟨by decide, by decide⟩
  · obtain ⟨j, _, rfl⟩ := List.mem_map.1 h
    exact ⟨by omega, by omega⟩
theorem allS_U8 {l : List Int} (h : ∀ x ∈ l, U8 x) : ∀ x ∈ allS l, U8 x := fun x hx => (List.mem_append.1 hx).elim (h x) (padS_U8 _ x)
theorem mix_f (st b : List Int) (h8 : st.length = 8) (hu : ∀ x ∈ st, U x) (h64 : b.length = 64) (hb : ∀ x ∈ b, U8 x) : chandleryref03_Mix.f st b = some (mixS st b) := by
  rw [chandleryref03_Mix.f, if_pos ⟨h8, h64, okW_of hu, okB_of hb⟩]
theorem word4_ref {x : Int} (h : U x) : [(wrap64 (Int.tdiv x 16777216)) % 256, (Int.tmod (wrap64 (Int.tdiv x 65536)) 256) % 256, (Int.tmod (wrap64 (Int.tdiv x 256)) 256) % 256, (Int.tmod x 256) % 256] = word4 x := by
  rw [quoU h _ (by decide), quoU h _ (by decide), quoU h _ (by decide)]
  have h0 := h.1
  have a1 := U_quo h 65536 (by decide)
  have a2 := U_quo h 256 (by decide)
  rw [Int.tmod_eq_emod_of_nonneg a1.1, Int.tmod_eq_emod_of_nonneg a2.1, Int.tmod_eq_emod_of_nonneg h0, Int.emod_emod, Int.emod_emod, Int.emod_emod]
  rfl
theorem sum_l1 (st : List Int) (h8 : st.length = 8) (hu : ∀ x ∈ st, U x) (m : Nat) : ∀ (i fuel : Nat), i + m = 8 → m + 1 ≤ fuel → chandleryref03_Sum.l1 fuel st (outB st i) i = some (outB st 8) := by
  induction m with
  | zero =>
    intro i fuel hi hf
    obtain ⟨f, rfl⟩ : ∃ f, fuel = f + 1 := ⟨fuel - 1, by omega⟩
    obtain rfl : i = 8 := by omega
    rw [chandleryref03_Sum.l1, if_neg (by omega)]
  | succ m ih =>
    intro i fuel hi hf
    obtain ⟨f, rfl⟩ : ∃ f, fuel = f + 1 := ⟨fuel - 1, by omega⟩
    rw [chandleryref03_Sum.l1, if_pos (by omega), if_pos (by omega), if_pos (by omega), word4_ref (U_rd hu (i : Int)), Option.bind_some,
      if_pos (by rw [outB_length st i (by omega)]; simp only [word4, List.length_cons, List.length_nil]; omega), outB_succ st i (by omega), w64n (by omega) (by omega)]
    exact ih (i + 1) f (by omega) (by omega)
theorem sum_l0 (all : List Int) (N : Nat) (hl : all.length = 64 * N) (hN : N ≤ 1000) (hb : ∀ x ∈ all, U8 x) (m : Nat) : ∀ (i fuel : Nat), i + m = N → m + 11 ≤ fuel →
    chandleryref03_Sum.l0 fuel all (takeK startL all i) ((64 * i : Nat) : Int) = some (outB (takeK startL all N) 8) := by
  induction m with
  | zero =>
    intro i fuel hi hf
    obtain ⟨f, rfl⟩ : ∃ f, fuel = f + 1 := ⟨fuel - 1, by omega⟩
    obtain rfl : i = N := by omega
    rw [chandleryref03_Sum.l0, if_neg (by omega)]
    exact sum_l1 _ (takeK_length _ _ rfl _) (U_takeK U_start _ _) 8 0 f rfl (by omega)
  | succ m ih =>
    intro i fuel hi hf
    obtain ⟨f, rfl⟩ : ∃ f, fuel = f + 1 := ⟨fuel - 1, by omega⟩
    have e : wrap64 (((64 * i : Nat) : Int) + 64) = ((64 * (i + 1) : Nat) : Int) := by rw [w64n (by omega) (by omega)]; omega
    have hbk : (all.take (64 * (i + 1))).drop (64 * i) = blk all i := by
      rw [blk, List.drop_take, show 64 * (i + 1) - 64 * i = 64 by omega]
    rw [chandleryref03_Sum.l0, if_pos (by omega), if_pos (by omega), e, if_pos (by omega), if_pos (by omega), Int.toNat_natCast, Int.toNat_natCast, hbk,
      mix_f _ _ (takeK_length _ _ rfl _) (U_takeK U_start _ _) (by rw [blk, List.length_take, List.length_drop]; omega) (fun x hx => hb x (mem_blk hx)), Option.bind_some]
    exact ih (i + 1) f (by omega) (by omega)
theorem start_f : chandleryref03_Start.f 100 = some startL := by decide +kernel
theorem ref_sum (l : List Int) (hl : l.length ≤ 2000) (hb : ∀ x ∈ l, U8 x) : chandleryref03_Sum.f 100 l = some (shaS l) := by
  obtain ⟨N, hN, hN2⟩ := allS_len l
  have hp := padS_len l.length
  rw [chandleryref03_Sum.f, if_pos (by simp only [List.length_nil]; omega), Option.bind_some, List.nil_append, chandleryref03_Pad.f, if_pos (by omega), Option.bind_some, if_pos (by rw [hp]; omega), start_f, Option.bind_some, sha_all l N hN]
  exact sum_l0 (allS l) N hN (by omega) (allS_U8 hb) N 0 100 (by omega) (by omega)
end Go.Proofs.Ytffcegbcjkhnoaa.Pure

/-! CShort -/
namespace Go.Proofs.Ytffcegbcjkhnoaa.PC
open Go.RowKit Go.Proofs.Ytffcegbcjkhnoaa.Pure Go.Proofs.YtffcegbcjkhnoaaW.PrintWords Go.Proofs.YtffcegbcjkhnoaaW.PrintLast Go.Proofs.YtffcegbcjkhnoaaW.PrintMore
set_option linter.unusedVariables false
set_option linter.unusedSimpArgs false
theorem foldS_byt {l : List Int} (h : Byt l) (s : Nat) : Byt (foldS l s) := by
  intro x hx
  obtain ⟨k, _, rfl⟩ := List.mem_map.1 hx
  have := col_lt h s k
  omega
theorem word4_byt (x : Int) : Byt (word4 x) := by
  intro y hy
  simp only [word4, List.mem_cons, List.not_mem_nil, or_false] at hy
  rcases hy with rfl | rfl | rfl | rfl <;> omega
theorem sha_byt (l : List Int) : Byt (shaS l) := by
  intro x hx
  unfold shaS outB at hx
  obtain ⟨y, _, hy⟩ := List.mem_flatMap.1 hx
  exact word4_byt y x hy
theorem sha_len (l : List Int) : (shaS l).length = 32 := outB_length _ 8 (by rw [stateS, takeK_length _ _ (takeK_length _ _ rfl _)]; exact Nat.le_refl _)
/-- The folded digest of a text; its digits. -/
def shc (a : ByteArray) : List Int := foldS (shaS (bytesOf a)) 20
def shs (a : ByteArray) : ByteArray := strOfNums (encP (shc a) 32)
theorem shc_len (a : ByteArray) : (shc a).length = 20 := foldS_length _ _
theorem shc_byt (a : ByteArray) : Byt (shc a) := foldS_byt (sha_byt _) 20
theorem sha_at (a : ByteArray) (h : a.size ≤ 500) : sha256_Sum.f (bytesOf a) = some (shaS (bytesOf a)) := by
  rw [sha256_Sum.f, if_pos (by rw [bytesOf_length]; omega)]
theorem fold_at (a : ByteArray) : fold_Fold.f 100 (shaS (bytesOf a)) 20 = some (shc a, 0) :=
  fold_f _ (sha_byt _) (by rw [sha_len]; decide) 20 100 (by decide) (by decide) (by rw [sha_len]; decide)
theorem short_at (a : ByteArray) (h : a.size ≤ 500) : fold_Short.f a = some (shs a) := by
  rw [fold_Short.f, sha_at a h, Option.bind_some, fold_at, Option.bind_some]
  exact enc_f (shc a) (shc_byt a) (shc_len a) 400 (by decide)
theorem shortR_at (a : ByteArray) (h : a.size ≤ 500) : chandleryref04_Short.f a = some (shs a) := by
  have hr := ref_sum (bytesOf a) (by rw [bytesOf_length]; omega) (fun x hx => by
    have := byt_bytesOf a x hx
    exact ⟨by omega, by omega⟩)
  have hf := ref_f (shaS (bytesOf a)) (sha_byt _) (by rw [sha_len]; decide) 20 1000 (by decide) (by rw [sha_len]; decide)
  rw [show ((20 : Nat) : Int) = 20 from rfl] at hf
  rw [chandleryref04_Short.f, if_pos (by omega), hr, Option.bind_some, hf, Option.bind_some]
  exact ref_enc (shc a) (shc_byt a) (shc_len a) 400 (by decide)
set_option maxRecDepth 100000 in
theorem chandlerylaw04_FoldShort.calls (a0 : ByteArray) (w : World) :
    Calls Try.prog 9 #[.string a0] w fun e w' => e = .returned (.bool true) ∧ Below w.heap.size w w' := by
  by_cases hbig : 500 < a0.size
  · have hbi : (500 : Int) < (a0.size : Int) := by omega
    go_enter Try.func9, Try.ntmps9
    go_wp2_with fail
    go_ret
    exact ⟨rfl, Below.refl _ _⟩
  · have hbi : ¬ (500 : Int) < (a0.size : Int) := by omega
    have h5 : a0.size ≤ 500 := by omega
    have HS := Aside0.mk (short_at a0 h5)
    have HR := Aside0.mk (shortR_at a0 h5)
    have HA := Aside0.mk (sha_at a0 h5)
    have HF := Aside0.mk (fold_at a0)
    have HD := Aside0.mk (dec_f (shc a0) (shc_byt a0) (shc_len a0) 400 (by decide))
    have HL := Aside0.mk (shc_len a0)
    rw [show strOfNums (encP (shc a0) 32) = shs a0 from rfl] at HD
    have hcv := fun w => print_bytes (P := Try.prog) 9 22 5 Try.underlying9 Try.underlying22 Try.underlying5 a0 w
    generalize shs a0 = S at HS HR HD
    generalize shc a0 = c at HF HD HL
    generalize hsh : shaS (bytesOf a0) = sh at HA HF
    clear hsh
    go_enter Try.func9, Try.ntmps9
    go_wp2_with fail
    refine (fold_Short.calls a0 S w HS.out).mono ?_
    rintro e w1 ⟨rfl, hb1⟩
    have HB1 := Aside0.mk hb1
    clear hb1
    go_wp2_with fail
    refine (base_Decode.calls 400 S c 0 w1 HD.out).mono ?_
    rintro e w2 ⟨v2, rfl, hr2, hb2⟩
    obtain ⟨A2, c2, rfl⟩ := Kd.R_slice hr2
    have HR2 := Aside0.mk hr2
    have HB2 := Aside0.mk (below_then HB1.out HB1.out.size hb2)
    clear hr2 hb2 HB1
    go_wp2_with fail
    have hsz := bytesOf_length a0
    have hx := sha256_Sum.calls (some ⟨w2.heap.size, 0, none⟩) (grownCap w2 a0.size 0 5) (bytesOf a0) sh (Lib.bytesWorld w2 5 a0) (C_bytes w2 a0 (by omega)) (by rw [hsz]; exact grownCap_ge w2 _ _ _) HA.out
    rw [hsz] at hx
    refine hx.mono ?_
    have hbw := bytes_below (Below.refl w2.heap.size w2) (Nat.le_refl _) 5 a0
    have HR3 := Aside0.mk (Kd.R_below HR2.out hbw)
    have HB3 := Aside0.mk (below_then HB2.out HB2.out.size hbw)
    clear hx hbw HR2 HB2 hcv
    generalize Lib.bytesWorld w2 5 a0 = wb at HB3 HR3 ⊢
    rintro e2 w4 ⟨v4, rfl, hr4, hb4⟩
    obtain ⟨A4, c4, rfl⟩ := Kd.R_slice hr4
    have HP4 := Aside0.mk (Kd.R_reads' hr4).2
    have HR4 := Aside0.mk (Kd.R_below HR3.out hb4)
    have HB4 := Aside0.mk (below_then HB3.out HB3.out.size hb4)
    clear hr4 hb4 HR3 HB3
    go_wp2_with fail
    refine (fold_Fold.calls 100 A4 c4 sh 20 c 0 w4 HP4.out.2 HP4.out.1 HF.out).mono ?_
    rintro e5 w5 ⟨v5, rfl, hr5, hb5⟩
    obtain ⟨A5, c5, rfl⟩ := Kd.R_slice hr5
    have HQ5 := Aside0.mk hr5
    have HR5 := Aside0.mk (Kd.R_below HR4.out hb5)
    have HB5 := Aside0.mk (below_then HB4.out HB4.out.size hb5)
    clear hr5 hb5 HR4 HB4 HP4
    go_wp2_with fail
    refine (chandlerylaw04_awake.calls true w5 rfl).mono ?_
    rintro e6 w6 ⟨rfl, hb6⟩
    have HQ6 := Aside0.mk (Kd.R_below HQ5.out hb6)
    have HR6 := Aside0.mk (Kd.R_below HR5.out hb6)
    have HB6 := Aside0.mk (below_then HB5.out HB5.out.size hb6)
    clear hb6 HQ5 HR5 HB5
    go_wp2_with fail
    refine (chandleryref04_Short.calls a0 S w6 HR.out).mono ?_
    rintro e7 w7 ⟨rfl, hb7⟩
    have HQ7 := Aside0.mk (Kd.R_below HQ6.out hb7)
    have HR7 := Aside0.mk (Kd.R_below HR6.out hb7)
    have HB7 := Aside0.mk (below_then HB6.out HB6.out.size hb7)
    clear hb7 HQ6 HR6 HB6
    have hcv4 := (cvAt_own HR7.out).out
    have hcv6 := (cvAt_own HQ7.out).out
    have hlen := HL.out
    rw [hlen] at hcv4 hcv6 ⊢
    go_wp2_with fail
    go_ret
    exact ⟨rfl, HB7.out⟩
end Go.Proofs.Ytffcegbcjkhnoaa.PC
