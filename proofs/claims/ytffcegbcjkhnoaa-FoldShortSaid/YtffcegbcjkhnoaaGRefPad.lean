/- The contract of chandleryref03.Pad: the same bytes as sha256.Pad's, built the other way. -/
import Derived.Test.YtffcegbcjkhnoaaGWrite
namespace Go.Proofs.Ytffcegbcjkhnoaa.PC
open Go.RowKit Go.Proofs.YtffcegbcjkhnoaaW.PrintWords Go.Proofs.YtffcegbcjkhnoaaW.PrintLast Go.Proofs.YtffcegbcjkhnoaaW.PrintMore
set_option linter.unusedVariables false
set_option linter.unusedSimpArgs false
def chandleryref03_Pad.f (a0 : Int) : Option (List Int) := if 0 ≤ a0 ∧ a0 ≤ 1000000000 then some (padS a0) else none
/-- How many empty bytes stand between. -/
def gapN (n : Nat) : Nat := 63 - (n + 8) % 64
def lowAt (n : Nat) : Nat → List Int
  | 0 => [0, 0, 0, 0, 0, 0, 0, 0]
  | i + 1 => (lowAt n i).set (7 - i) (((8 * n / 256 ^ i % 256 : Nat)) : Int)
theorem lowAt_length (n : Nat) (i : Nat) : (lowAt n i).length = 8 := by
  induction i with
  | zero => rfl
  | succ i ih => simp [lowAt, ih]
theorem low_cell (n i j : Nat) (hj : j < 8) : (nums .u8 (lowAt n i)).toArray[j]? = some (.int .u8 (rd (lowAt n i) (j : Int))) := by
  have hl := lowAt_length n i
  rw [rd, Int.toNat_natCast]
  simp [nums, List.getElem?_eq_getElem (show j < (lowAt n i).length by omega), List.getD_eq_getElem?_getD]
theorem low_put (n j : Nat) (hj : j < 8) (q : Nat) (hq : 8 * n / 256 ^ (8 - (j + 1)) = q) : (nums .u8 (lowAt n (8 - (j + 1)))).toArray.setIfInBounds j (.int .u8 ((q : Int) % 256)) = (nums .u8 (lowAt n (8 - j))).toArray := by
  have hq2 : ((q : Int) % 256) = ((q % 256 : Nat) : Int) := by omega
  rw [show 8 - j = (8 - (j + 1)) + 1 by omega, lowAt, hq, hq2, show 7 - (8 - (j + 1)) = j by omega]
  simp [nums, List.map_set]
theorem C_low (W : World) (G n : Nat) (h : W.heap[G]? = some (.cells (nums .u8 (lowAt n 8)).toArray 71 (0, 0))) : Kd.C (Kd.int .u8) W (some ⟨G, 0, none⟩) 8 (lowAt n 8) := by
  refine Kd.C_of_reads (d := 0) (h1 := fun _ => rfl) ⟨lowAt_length n 8, by decide, fun _ => ⟨_, rfl, fun j hj => ?_⟩⟩
  have ha : (⟨G, 0, none⟩ : Addr).add j = ⟨G, j, none⟩ := by unfold Addr.add; split <;> simp_all
  rw [ha, cell_of_row _ _ j _ 71 (0, 0) h, low_cell n 8 j hj, rd, Int.toNat_natCast]
theorem padS_low (n : Nat) : (128 :: List.replicate (gapN n) 0) ++ lowAt n 8 = padS n := by
  have h1 : (64 - ((n : Int) + 8) % 64).toNat = gapN n + 1 := by unfold gapN; omega
  unfold padS
  rw [h1, List.replicate_succ, List.set_cons_zero]
  congr 1
theorem gap_succ (t : Nat) : (128 : Int) :: List.replicate t 0 ++ [0] = 128 :: List.replicate (t + 1) 0 := by
  rw [List.cons_append, List.replicate_succ']
theorem C_lit1 (W : World) (a : Int) : Kd.C (Kd.int .u8) (W.alloc (.cells #[.int .u8 a] 5)) (some ⟨W.heap.size, 0, none⟩) 1 [a] := by
  refine Kd.C_of_reads (d := 0) (h1 := fun _ => rfl) ⟨rfl, by decide, fun _ => ⟨_, rfl, fun j hj => ?_⟩⟩
  have ha : (⟨W.heap.size, 0, none⟩ : Addr).add j = ⟨W.heap.size, j, none⟩ := by unfold Addr.add; split <;> simp_all
  rw [ha, cell_of_row _ _ j _ 5 (0, 0) (heap_alloc_new W _)]
  match j, hj with
  | 0, _ => rfl
theorem R_lit1 (W : World) (base : Nat) (hb : base ≤ W.heap.size) (a : Int) : Kd.R (Kd.int .u8) 5 (W.alloc (.cells #[.int .u8 a] 5)) base (fun _ => True) (.slice (some ⟨W.heap.size, 0, none⟩) 1 1) [a] := by
  refine Kd.R_of_own (h1 := fun _ => rfl) ?_ (fun _ _ => trivial)
  refine ⟨by simp [encs], .inr ⟨W.heap.size, 1, #[.int .u8 a], by simp, hb, heap_alloc_new W _, by simp, by decide, by simp, ?_⟩⟩
  simp [encs]
set_option maxRecDepth 100000 in
theorem chandleryref03_Pad.calls (a0 : Int) (r : List Int) (w : World) (h : chandleryref03_Pad.f a0 = some r) :
    Calls Try.prog 38 #[.int .i64 a0] w fun e w' => ∃ v0_ : Value, e = .returned (v0_) ∧ Kd.R (Kd.int .u8) 5 w' w.heap.size (fun _ => True) v0_ r ∧ Below w.heap.size w w' := by
  unfold chandleryref03_Pad.f at h
  by_cases hn : 0 ≤ a0 ∧ a0 ≤ 1000000000
  · rw [if_pos hn, Option.some.injEq] at h
    subst h
    obtain ⟨n, rfl⟩ := Int.eq_ofNat_of_zero_le hn.1
    have hn2 : n ≤ 1000000000 := by omega
    clear hn
    go_enter Try.func38, Try.ntmps38
    go_wp2_with fail
    have HR1 := Aside0.mk (R_lit1 w w.heap.size (Nat.le_refl _) 128)
    have HB1 := Aside0.mk ((Below.refl w.heap.size w).alloc (Nat.le_refl _) (.cells #[.int .u8 128] 5))
    generalize w.alloc (.cells #[.int .u8 128] 5) = w1 at HR1 HB1 ⊢
    go_loopw [3] (fun v wr => ∃ (t : Nat) (A : Option Addr) (c : Nat), t ≤ gapN n ∧ v = .slice A (t + 1) c ∧ Aside0 (Kd.R (Kd.int .u8) 5 wr w.heap.size (fun _ => True) v (128 :: List.replicate t 0)) ∧ Aside0 (Below w.heap.size w wr)) (fun v _ => (match v with | .slice _ m _ => 100 - m | _ => 0))
    case atStart => exact ⟨0, _, _, by omega, rfl, HR1, HB1⟩
    case round =>
      clear HR1 HB1
      obtain ⟨t, A, c, ht, rfl, HO, HB⟩ := hrel
      have hg : gapN n ≤ 63 := by unfold gapN; omega
      have e1 : wrap64 ((n : Int) + ((t : Int) + 1)) = (n : Int) + ((t : Int) + 1) := w64 (by omega) (by omega)
      have e2 : wrap64 ((n : Int) + ((t : Int) + 1) + 8) = (n : Int) + ((t : Int) + 1) + 8 := w64 (by omega) (by omega)
      have e3 : Int.tmod ((n : Int) + ((t : Int) + 1) + 8) 64 = (((n + (t + 1) + 8) % 64 : Nat) : Int) := by
        rw [Int.tmod_eq_emod_of_nonneg (by omega)]
        omega
      by_cases hlt : t < gapN n
      · have e4 : ¬ (n + (t + 1) + 8) % 64 = 0 := by unfold gapN at hlt; omega
        have e5 := Nat.mod_lt (n + (t + 1) + 8) (show 64 > 0 by decide)
        go_wp2_with ((with_reducible refine gate_builtin (b := .append) (xs := #[.tmp 15, .tmp 16]) rfl ?_); refine Kd.R_append_rows (Kd.int .u8) (w0 := w) w.heap.size rfl (.tmp 15) (.tmp 16) 22 5 (.int .u8 0) 1 rfl Try.underlying22 info5 rfl (by decide) (by omega) _ (128 :: List.replicate t 0) [0] (some ⟨wr.heap.size, 0, none⟩) 1 1 (fun _ => True) (fun _ => False) rfl rfl ?aO ?aR (fun _ _ h => h) (fun _ h => h.elim) ?aF ?aB ?aS ?aL ?_; (case aR => exact C_lit1 wr _); (case aB => exact HB.out.alloc (by have := HB.out.size; omega) _); (case aF => exact (fun _ _ => trivial)); (case aO => exact Kd.R_alloc HO.out _); (case aS => rw [alloc_size]; have := HB.out.size; omega); (case aL => simp; omega); intro v6 w6 ho hb hg2 hat; rw [gap_succ] at ho; obtain ⟨A2, c2, e6⟩ := Kd.R_slice ho; rw [List.length_cons, List.length_replicate] at e6; subst e6; have HO2 := Aside0.mk ho; have HB2 := Aside0.mk hb; clear HB HO ho hb hg2 hat)
        go_roundw
        case rel => exact ⟨t + 1, A2, c2, by omega, rfl, HO2, HB2⟩
        case measure =>
          show 100 - (t + 1 + 1) < 100 - (t + 1)
          omega
      · have htg : t = gapN n := by omega
        have e4 : (n + (t + 1) + 8) % 64 = 0 := by unfold gapN at htg; omega
        rw [e4] at e3
        have e6 : wrap64 (8 * (n : Int)) = 8 * (n : Int) := w64 (by omega) (by omega)
        have HT := Aside0.mk htg
        clear ht hlt htg
        go_wp2_with fail
        have hnew := heap_alloc_new wr (.cells #[.int .u8 0, .int .u8 0, .int .u8 0, .int .u8 0, .int .u8 0, .int .u8 0, .int .u8 0, .int .u8 0] 71)
        have HL := Aside0.mk (show (wr.alloc (.cells #[.int .u8 0, .int .u8 0, .int .u8 0, .int .u8 0, .int .u8 0, .int .u8 0, .int .u8 0, .int .u8 0] 71)).heap[wr.heap.size]? = some (.cells (nums .u8 (lowAt n (8 - 8))).toArray 71 (0, 0)) from hnew)
        have HO1 := Aside0.mk (Kd.R_alloc HO.out (.cells #[.int .u8 0, .int .u8 0, .int .u8 0, .int .u8 0, .int .u8 0, .int .u8 0, .int .u8 0, .int .u8 0] 71))
        have hGw : w.heap.size ≤ wr.heap.size := HB.out.size
        have HB1 := Aside0.mk (HB.out.alloc hGw (.cells #[.int .u8 0, .int .u8 0, .int .u8 0, .int .u8 0, .int .u8 0, .int .u8 0, .int .u8 0, .int .u8 0] 71))
        clear hnew HO HB e1 e2 e3 e4
        generalize wr.alloc (.cells #[.int .u8 0, .int .u8 0, .int .u8 0, .int .u8 0, .int .u8 0, .int .u8 0, .int .u8 0, .int .u8 0] 71) = wq at *
        generalize wr.heap.size = G at *
        go_loopw [4, 6] (fun x v w3 => ∃ k : Nat, k ≤ 8 ∧ v = .int .i64 ((k : Int) - 1) ∧ x = .int .i64 ((8 * n / 256 ^ (8 - k) : Nat) : Int) ∧ Aside0 (w3.heap[G]? = some (.cells (nums .u8 (lowAt n (8 - k))).toArray 71 (0, 0))) ∧ Aside0 (Kd.R (Kd.int .u8) 5 w3 w.heap.size (fun _ => True) (.slice A (t + 1) c) (128 :: List.replicate t 0)) ∧ Aside0 (Below w.heap.size w w3)) (fun _ v _ => (intOf v + 1).toNat)
        case atStart => exact ⟨8, by omega, rfl, by simp, HL, HO1, HB1⟩
        case round =>
          clear HL HO1 HB1
          obtain ⟨k, hk, rfl, rfl, HL, HO, HB⟩ := hrel
          rcases k with _ | j
          · rw [show (((0 : Nat) : Int) - 1) = -1 from rfl]
            rw [show 8 - 0 = 8 from rfl] at HL
            go_wp2_with ((with_reducible refine gate_builtin (b := .append) (xs := #[.tmp 31, .tmp 32]) rfl ?_); refine Kd.R_append_rows (Kd.int .u8) (w0 := w) w.heap.size rfl (.tmp 31) (.tmp 32) 22 5 (.int .u8 0) 1 rfl Try.underlying22 info5 rfl (by decide) (by omega) _ (128 :: List.replicate t 0) (lowAt n 8) (some ⟨G, 0, none⟩) 8 8 (fun _ => True) (fun _ => False) rfl rfl ?aO ?aR (fun _ _ h => h) (fun _ h => h.elim) ?aF ?aB ?aS ?aL ?_; (case aR => exact C_low wr G n HL.out); (case aB => exact HB.out); (case aF => exact (fun _ _ => trivial)); (case aO => exact HO.out); (case aS => exact HB.out.size); (case aL => have := HT.out; simp; omega); intro v6 w6 ho hb hg2 hat; have HO2 := Aside0.mk ho; have HB2 := Aside0.mk hb; clear HB HO ho hb hg2 hat)
            go_ret
            refine ⟨_, rfl, ?_, HB2.out⟩
            have hl := HO2.out
            rw [HT.out, padS_low n] at hl
            exact hl
          · rw [show (((j + 1 : Nat) : Int) - 1) = (j : Int) by omega]
            have hq : 8 * n / 256 ^ (8 - (j + 1)) ≤ 8000000000 := Nat.le_trans (Nat.div_le_self _ _) (by omega)
            generalize hqq : 8 * n / 256 ^ (8 - (j + 1)) = q at *
            have t1 : Int.tmod (q : Int) 256 = ((q % 256 : Nat) : Int) := by rw [Int.tmod_eq_emod_of_nonneg (by omega)]; rfl
            have t2 : Int.tdiv (q : Int) 256 = ((q / 256 : Nat) : Int) := by rw [Int.tdiv_eq_ediv_of_nonneg (by omega)]; rfl
            have t3 : ((q % 256 : Nat) : Int) % 256 = ((q % 256 : Nat) : Int) := by omega
            have d0 : wr.cell? ⟨G, j, none⟩ = some (.int .u8 (rd (lowAt n (8 - (j + 1))) (j : Int))) := by
              rw [cell_of_row wr G j _ 71 (0, 0) HL.out]
              exact low_cell n _ j (by omega)
            have f0 : wr.frozen? ⟨G, j, none⟩ = false := frozen_of_row wr G j _ 71 HL.out
            go_wp2_with fail
            go_roundw
            case rel =>
              have hw : w.heap.size ≤ G := hGw
              refine ⟨j, by omega, rfl, ?_, ⟨?_⟩, ⟨Kd.R_set HO.out HL.out ?_ j _⟩, ⟨HB.out.setCell hw _⟩⟩
              · have : 8 * n / 256 ^ (8 - j) = q / 256 := by
                  rw [show 8 - j = (8 - (j + 1)) + 1 by omega, Nat.pow_succ, ← Nat.div_div_eq_div_mul, hqq]
                rw [this]
                rfl
              · rw [heap_setCell_at HL.out, ← low_put n j (by omega) q hqq]
              · intro z hz
                have hz5 : z = 5 := by simpa [Kd.int, Kd.scalar] using hz
                subst hz5
                decide
            case measure => simp [intOf]
  · rw [if_neg hn] at h
    cases h
end Go.Proofs.Ytffcegbcjkhnoaa.PC
