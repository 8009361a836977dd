/- The contracts of slices.Grow on nil and of slices.Concat on two rows of bytes: the bytes of both, one behind the other, in memory of the call's own. -/
import Derived.Test.YtffcegbcjkhnoaaGArr
namespace Go.Proofs.Ytffcegbcjkhnoaa.PC
open Go.RowKit Go.Proofs.YtffcegbcjkhnoaaW.PrintWords Go.Proofs.YtffcegbcjkhnoaaW.PrintLast Go.Proofs.YtffcegbcjkhnoaaW.PrintMore
set_option linter.unusedVariables false
set_option linter.unusedSimpArgs false
theorem grow_calls (n : Nat) (hn : n ≤ 1000000000000) (w : World) : Calls Try.prog 74 #[.slice none 0 0, .int .i64 (n : Int)] w fun e w' => ∃ v, e = .returned v ∧ Kd.R (Kd.int .u8) 5 w' w.heap.size (fun _ => True) v [] ∧ Below w.heap.size w w' := by
  rcases Nat.eq_zero_or_pos n with rfl | hp
  · rw [show ((0 : Nat) : Int) = 0 from rfl]
    go_enter Try.func74, Try.ntmps74
    go_wp2
    go_ret
    exact ⟨_, rfl, Kd.R_nil _ _ _ _ _, Below.refl _ _⟩
  · have hpi : (0 : Int) < (n : Int) := by omega
    obtain ⟨i0, hi, _, hsz, _⟩ := info_parts info5
    go_enter Try.func74, Try.ntmps74
    go_wp2_with ((with_reducible refine gate_builtin (b := .append) (xs := #[.tmp 20, .tmp 21]) rfl ?_); refine Kd.R_append_zeros (Kd.int .u8) (w0 := w) w.heap.size rfl (.tmp 20) (.tmp 21) 22 3 5 (.int .u8 0) 1 rfl Try.underlying22 Try.underlying3 info5 rfl (by decide) (by omega) (.slice none 0 0) [] 0 (n : Int) (fun _ => True) rfl rfl rfl ?aF ?aO ?a0 ?aB ?aS ?aL ?_; (case aF => exact (fun _ _ => trivial)); (case aO => exact Kd.R_nil _ _ _ _ _); (case a0 => omega); (case aB => exact Below.refl _ _); (case aS => exact Nat.le_refl _); (case aL => simp; omega); intro v1 w1 ho hb hg hat; have HO := Aside0.mk ho; have HB := Aside0.mk hb; clear ho hb hg hat; obtain ⟨A1, c1, e1⟩ := Kd.R_slice HO.out; subst e1; have hcut := cut_to (P := Try.prog) 22 5 .i64 Try.underlying22 hi A1 _ c1 0 (by omega) (by omega) (Kd.R_reads' HO.out).2.1)
    go_ret
    refine ⟨_, rfl, ?_, HB.out⟩
    have hz := Kd.R_take HO.out (m := 0) (Nat.zero_le _)
    rwa [List.take_zero] at hz
theorem concat_calls (g c1 c2 : Nat) (A1 A2 : Option Addr) (l1 l2 : List Int) (w : World) (hl1 : l1.length ≤ 100000000000) (hl2 : l2.length ≤ 100000000000) (hc1 : l1.length ≤ c1) (hc2 : l2.length ≤ c2)
    (h1 : w.cell? ⟨g, 0, none⟩ = some (.slice A1 l1.length c1)) (h2 : w.cell? ⟨g, 1, none⟩ = some (.slice A2 l2.length c2)) (hr1 : Kd.C (Kd.int .u8) w A1 l1.length l1) (hr2 : Kd.C (Kd.int .u8) w A2 l2.length l2) :
    Calls Try.prog 61 #[.slice (some ⟨g, 0, none⟩) 2 2] w fun e w' => ∃ v, e = .returned v ∧ Kd.R (Kd.int .u8) 5 w' w.heap.size (fun _ => True) v (l1 ++ l2) ∧ Below w.heap.size w w' := by
  have HR1 := Aside0.mk hr1
  have HR2 := Aside0.mk hr2
  have HC1 := Aside0.mk h1
  have HC2 := Aside0.mk h2
  have gl1 := block_lt_of_cell h1
  clear hr1 hr2
  go_enter Try.func61, Try.ntmps61
  go_wp2_with fail
  go_loop [3, 11] (fun s i => ∃ k : Nat, k ≤ 2 ∧ i = .int .i64 k ∧ s = .int .i64 ((if k = 0 then 0 else if k = 1 then l1.length else l1.length + l2.length : Nat) : Int)) (fun _ i => 2 - (intOf i).toNat)
  case atStart => exact ⟨0, by omega, rfl, rfl⟩
  case round =>
    obtain ⟨k, hk, rfl, rfl⟩ := hrel
    match k, hk with
    | 0, _ =>
      rw [if_pos rfl]
      go_wp2_with fail
      go_round
      case rel => exact ⟨1, by omega, rfl, by first | rfl | simp⟩
      case measure => simp [intOf]
    | 1, _ =>
      rw [if_neg (by decide), if_pos rfl]
      go_wp2_with fail
      go_round
      case rel => exact ⟨2, by omega, rfl, by first | rfl | simp⟩
      case measure => simp [intOf]
    | 2, _ =>
      rw [if_neg (by decide), if_neg (by decide)]
      go_wp2_with fail
      rw [← Int.natCast_add]
      refine (grow_calls (l1.length + l2.length) (by omega) _).mono ?_
      rintro e w1 ⟨v0, rfl, hR0, hB0⟩
      have HO := Aside0.mk hR0
      have HB := Aside0.mk (show Below w.heap.size w w1 from hB0)
      clear hR0 hB0
      go_wp2_with fail
      go_loopw [6, 27] (fun s i wr => ∃ k : Nat, k ≤ 2 ∧ i = .int .i64 k ∧ Aside0 (Kd.R (Kd.int .u8) 5 wr w.heap.size (fun _ => True) s (if k = 0 then [] else if k = 1 then l1 else l1 ++ l2)) ∧ Aside0 (Below w.heap.size w wr)) (fun _ i _ => 2 - (intOf i).toNat)
      case atStart => exact ⟨0, by omega, rfl, HO, HB⟩
      case round =>
        obtain ⟨k, hk, rfl, HO, HB⟩ := hrel
        have hc1' := (HB.out.cell (p := ⟨g, 0, none⟩) gl1).trans HC1.out
        have hc2' := (HB.out.cell (p := ⟨g, 1, none⟩) gl1).trans HC2.out
        match k, hk with
        | 0, _ =>
          rw [if_pos rfl] at HO
          go_wp2_with ((with_reducible refine gate_builtin (b := .append) (xs := #[.tmp 31, .tmp 32]) rfl ?_); refine Kd.R_append_rows (Kd.int .u8) (w0 := w) w.heap.size rfl (.tmp 31) (.tmp 32) 22 5 (.int .u8 0) 1 rfl Try.underlying22 info5 rfl (by decide) (by omega) _ ([]) (l1) A1 (l1).length c1 (fun _ => True) (fun _ => False) rfl rfl ?aO ?aR (fun _ _ h => h) (fun _ h => h.elim) ?aF ?aB ?aS ?aL ?_; (case aR => exact Kd.C_below HR1.out HB.out); (case aB => exact HB.out); (case aF => exact (fun _ _ => trivial)); (case aO => exact HO.out); (case aS => exact HB.out.size); (case aL => simp; omega); intro v2 w2 ho hb hg hat; have HO2 := Aside0.mk ho; have HB2 := Aside0.mk hb; clear HB HO ho hb hg hat hc1' hc2')
          go_roundw
          case rel => exact ⟨1, by omega, rfl, HO2, HB2⟩
          case measure => simp [intOf]
        | 1, _ =>
          rw [if_neg (by decide), if_pos rfl] at HO
          go_wp2_with ((with_reducible refine gate_builtin (b := .append) (xs := #[.tmp 31, .tmp 32]) rfl ?_); refine Kd.R_append_rows (Kd.int .u8) (w0 := w) w.heap.size rfl (.tmp 31) (.tmp 32) 22 5 (.int .u8 0) 1 rfl Try.underlying22 info5 rfl (by decide) (by omega) _ (l1) (l2) A2 (l2).length c2 (fun _ => True) (fun _ => False) rfl rfl ?aO ?aR (fun _ _ h => h) (fun _ h => h.elim) ?aF ?aB ?aS ?aL ?_; (case aR => exact Kd.C_below HR2.out HB.out); (case aB => exact HB.out); (case aF => exact (fun _ _ => trivial)); (case aO => exact HO.out); (case aS => exact HB.out.size); (case aL => simp; omega); intro v2 w2 ho hb hg hat; have HO2 := Aside0.mk ho; have HB2 := Aside0.mk hb; clear HB HO ho hb hg hat hc1' hc2')
          go_roundw
          case rel => exact ⟨2, by omega, rfl, HO2, HB2⟩
          case measure => simp [intOf]
        | 2, _ =>
          rw [if_neg (by decide), if_neg (by decide)] at HO
          go_wp2_with fail
          go_ret
          exact ⟨_, rfl, HO.out, HB.out⟩
end Go.Proofs.Ytffcegbcjkhnoaa.PC
