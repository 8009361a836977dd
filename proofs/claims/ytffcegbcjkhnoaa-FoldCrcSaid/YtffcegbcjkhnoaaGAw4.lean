/- The contract of chandlerylaw04's awake: the document's examples hold. -/
import Derived.Test.YtffcegbcjkhnoaaGShort
import Derived.Test.YtffcegbcjkhnoaaGCrc
import Derived.Lib.SlBytesConst
namespace Go.Proofs.Ytffcegbcjkhnoaa.PC
open Go.RowKit Go.Proofs.YtffcegbcjkhnoaaW.PrintWords Go.Proofs.YtffcegbcjkhnoaaW.PrintLast Go.Proofs.YtffcegbcjkhnoaaW.PrintMore
set_option linter.unusedVariables false
set_option linter.unusedSimpArgs false
def shortE : ByteArray := (fold_Short.f ByteArray.empty).getD ByteArray.empty
theorem short_E : fold_Short.f (⟨#[]⟩ : ByteArray) = some shortE := by decide +kernel
theorem shortE_size : shortE.size = 32 := by decide +kernel
theorem fold_E : fold_Fold.f 20 [1, 2, 3, 4, 5] 2 = some ([7, 6], 0) := by decide +kernel
theorem crc_9 : fold_Crc.f 20 [49, 50, 51, 52, 53, 54, 55, 56, 57] = some 3421780262 := by decide +kernel
theorem crc_0 : fold_Crc.f 20 [] = some 0 := by decide +kernel
def chandlerylaw04_awake.f : Option Bool := some true
theorem C_lits (W : World) (l : List Int) (hm : l.length ≤ 9223372036854775807) (cs : Array Value) (hc : cs = (nums .u8 l).toArray) (fr : Nat × Nat) : Kd.C (Kd.int .u8) (W.alloc (.cells cs 5 fr)) (some ⟨W.heap.size, 0, none⟩) l.length l := by
  refine Kd.C_of_reads (d := 0) (h1 := fun _ => rfl) ⟨rfl, hm, fun _ => ⟨_, rfl, fun j hj => ?_⟩⟩
  have ha : (⟨W.heap.size, 0, none⟩ : Addr).add j = ⟨W.heap.size, j, none⟩ := by unfold Addr.add; split <;> simp_all
  rw [ha, cell_of_row _ _ j _ 5 fr (heap_alloc_new W _), hc]
  simp [nums, List.getElem?_eq_getElem hj, List.getD_eq_getElem?_getD]
theorem str76 : (strOfNums [7, 6]).toList = [7, 6] := by decide +kernel
set_option maxRecDepth 100000 in
theorem chandlerylaw04_awake.calls (r : Bool) (w : World) (h : chandlerylaw04_awake.f = some r) :
    Calls Try.prog 31 #[] w fun e w' => e = .returned (.bool r) ∧ Below w.heap.size w w' := by
  cases h
  go_enter Try.func31, Try.ntmps31
  go_wp2_with fail
  refine (fold_Fold.calls 20 (some ⟨w.heap.size, 0, none⟩) 5 [1, 2, 3, 4, 5] 2 [7, 6] 0 _ (C_lits w [1, 2, 3, 4, 5] (by decide) _ rfl (0, 0)) (by decide) fold_E).mono ?_
  have HB0 := Aside0.mk ((Below.refl w.heap.size w).alloc (Nat.le_refl _) (.cells (nums .u8 [1, 2, 3, 4, 5]).toArray 5))
  generalize w.alloc (.cells (nums .u8 [1, 2, 3, 4, 5]).toArray 5) = w0 at HB0 ⊢
  rintro e w1 ⟨v1, rfl, hr1, hb1⟩
  obtain ⟨A1, c1, rfl⟩ := Kd.R_slice hr1
  have hcv1 := own_string (P := Try.prog) Try.underlying22 Try.underlying5 Try.underlying9 (Kd.own_of_R hr1)
  have HB1 := Aside0.mk (below_then HB0.out HB0.out.size hb1)
  clear hr1 hb1 HB0
  rw [show ([7, 6] : List Int).length = 2 from rfl] at hcv1 ⊢
  have h76 := str76
  have hcv2 := Go.Lib.run_convert_bytes_const (P := Try.prog) w1 22 5 #[.int .u8 49, .int .u8 50, .int .u8 51, .int .u8 52, .int .u8 53, .int .u8 54, .int .u8 55, .int .u8 56, .int .u8 57] 9 9 Try.underlying22 Try.underlying5
  go_wp2_with fail
  refine (fold_Crc.calls 20 (some ⟨w1.heap.size, 0, none⟩) 9 [49, 50, 51, 52, 53, 54, 55, 56, 57] 3421780262 _ (C_lits w1 [49, 50, 51, 52, 53, 54, 55, 56, 57] (by decide) _ rfl (9, 10)) (by decide) crc_9).mono ?_
  rintro e w2 ⟨rfl, m2, rfl⟩
  have HB2 := Aside0.mk (pw_below_drewN (HB1.out.alloc HB1.out.size (.cells (nums .u8 [49, 50, 51, 52, 53, 54, 55, 56, 57]).toArray 5 (9, 10))) m2)
  generalize (w1.alloc (.cells (nums .u8 [49, 50, 51, 52, 53, 54, 55, 56, 57]).toArray 5 (9, 10))).drewN m2 = w2 at HB2 ⊢
  clear hcv1 hcv2 HB1
  go_wp2_with fail
  refine (fold_Crc.calls 20 none 0 [] 0 w2 (Kd.C_nil _ _) (by decide) crc_0).mono ?_
  rintro e w3 ⟨rfl, m3, rfl⟩
  have HB3 := Aside0.mk (pw_below_drewN HB2.out m3)
  generalize w2.drewN m3 = w3 at HB3 ⊢
  clear HB2
  go_wp2_with fail
  refine (fold_Short.calls ⟨#[]⟩ shortE w3 short_E).mono ?_
  rintro e w4 ⟨rfl, hb4⟩
  have HB4 := Aside0.mk (below_then HB3.out HB3.out.size hb4)
  clear hb4 HB3
  have hs := shortE_size
  go_wp2_with fail
  go_ret
  exact ⟨rfl, HB4.out⟩
end Go.Proofs.Ytffcegbcjkhnoaa.PC
