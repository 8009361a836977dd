/- The contract of chandlerylaw03's awake: the digests of the empty row and of "abc" are the ones written. -/
import Derived.Test.YtffcegbcjkhnoaaGSum
import Derived.Test.YtffcegbcjkhnoaaCHex
import Derived.Lib.SlBytesConst
namespace Go.Proofs.Ytffcegbcjkhnoaa.PC
open Go.RowKit Go.Proofs.YtffcegbcjkhnoaaW.PrintWords Go.Proofs.YtffcegbcjkhnoaaW.PrintLast Go.Proofs.YtffcegbcjkhnoaaW.PrintMore
set_option linter.unusedVariables false
set_option linter.unusedSimpArgs false
def hexE : ByteArray := (⟨#[101, 51, 98, 48, 99, 52, 52, 50, 57, 56, 102, 99, 49, 99, 49, 52, 57, 97, 102, 98, 102, 52, 99, 56, 57, 57, 54, 102, 98, 57, 50, 52, 50, 55, 97, 101, 52, 49, 101, 52, 54, 52, 57, 98, 57, 51, 52, 99, 97, 52, 57, 53, 57, 57, 49, 98, 55, 56, 53, 50, 98, 56, 53, 53]⟩ : ByteArray)
def hexABC : ByteArray := (⟨#[98, 97, 55, 56, 49, 54, 98, 102, 56, 102, 48, 49, 99, 102, 101, 97, 52, 49, 52, 49, 52, 48, 100, 101, 53, 100, 97, 101, 50, 50, 50, 51, 98, 48, 48, 51, 54, 49, 97, 51, 57, 54, 49, 55, 55, 97, 57, 99, 98, 52, 49, 48, 102, 102, 54, 49, 102, 50, 48, 48, 49, 53, 97, 100]⟩ : ByteArray)
theorem hexE_list : hexE.toList = [101, 51, 98, 48, 99, 52, 52, 50, 57, 56, 102, 99, 49, 99, 49, 52, 57, 97, 102, 98, 102, 52, 99, 56, 57, 57, 54, 102, 98, 57, 50, 52, 50, 55, 97, 101, 52, 49, 101, 52, 54, 52, 57, 98, 57, 51, 52, 99, 97, 52, 57, 53, 57, 57, 49, 98, 55, 56, 53, 50, 98, 56, 53, 53] := by decide +kernel
theorem hexABC_list : hexABC.toList = [98, 97, 55, 56, 49, 54, 98, 102, 56, 102, 48, 49, 99, 102, 101, 97, 52, 49, 52, 49, 52, 48, 100, 101, 53, 100, 97, 101, 50, 50, 50, 51, 98, 48, 48, 51, 54, 49, 97, 51, 57, 54, 49, 55, 55, 97, 57, 99, 98, 52, 49, 48, 102, 102, 54, 49, 102, 50, 48, 48, 49, 53, 97, 100] := by decide +kernel
theorem sha_E : shaS [] = [227, 176, 196, 66, 152, 252, 28, 20, 154, 251, 244, 200, 153, 111, 185, 36, 39, 174, 65, 228, 100, 155, 147, 76, 164, 149, 153, 27, 120, 82, 184, 85] := by decide +kernel
theorem sha_ABC : shaS [97, 98, 99] = [186, 120, 22, 191, 143, 1, 207, 234, 65, 65, 64, 222, 93, 174, 34, 35, 176, 3, 97, 163, 150, 23, 122, 156, 180, 16, 255, 97, 242, 0, 21, 173] := by decide +kernel
theorem hex_E : chandleryref02_Hex.f 40 (shaS []) = some hexE := by
  rw [sha_E]
  decide +kernel
theorem hex_ABC : chandleryref02_Hex.f 40 (shaS [97, 98, 99]) = some hexABC := by
  rw [sha_ABC]
  decide +kernel
def chandlerylaw03_awake.f : Option Bool := some true
theorem C_lit3m (W : World) (a b c : Int) (fr : Nat × Nat) : Kd.C (Kd.int .u8) (W.alloc (.cells #[.int .u8 a, .int .u8 b, .int .u8 c] 5 fr)) (some ⟨W.heap.size, 0, none⟩) 3 [a, b, c] := by
  refine Kd.C_of_reads (d := 0) (h1 := fun _ => rfl) ⟨rfl, by decide, fun _ => ⟨_, rfl, fun j hj => ?_⟩⟩
  have ha : (⟨W.heap.size, 0, none⟩ : Addr).add j = ⟨W.heap.size, j, none⟩ := by unfold Addr.add; split <;> simp_all
  rw [ha, cell_of_row _ _ j _ 5 fr (heap_alloc_new W _)]
  match j, hj with
  | 0, _ => rfl
  | 1, _ => rfl
  | 2, _ => rfl
set_option maxRecDepth 100000 in
theorem chandlerylaw03_awake.calls  (r : Bool) (w : World) (h : chandlerylaw03_awake.f  = some r) :
    Calls Try.prog 37 #[] w fun e w' => e = .returned (.bool r) ∧ Below w.heap.size w w' := by
  cases h
  go_enter Try.func37, Try.ntmps37
  go_wp2_with fail
  refine (sha256_Sum.calls none 0 [] (shaS []) w (Kd.C_nil _ _) (by decide) (by rw [sha256_Sum.f, if_pos (by decide)])).mono ?_
  rintro e w1 ⟨v1, rfl, hr1, hb1⟩
  obtain ⟨A1, c1, rfl⟩ := Kd.R_slice hr1
  have HR1 := Aside0.mk (Kd.R_reads' hr1).2
  have HB1 := Aside0.mk hb1
  clear hr1 hb1
  go_wp2_with fail
  refine (chandleryref02_Hex.calls 40 A1 c1 (shaS []) hexE w1 HR1.out.2 HR1.out.1 hex_E).mono ?_
  rintro e w2 ⟨rfl, m, rfl⟩
  have HB2 := Aside0.mk (pw_below_drewN HB1.out m)
  generalize w1.drewN m = w2 at HB2 ⊢
  clear HR1 HB1
  have hE := hexE_list
  have hcv := Go.Lib.run_convert_bytes_const (P := Try.prog) w2 22 5 #[.int .u8 97, .int .u8 98, .int .u8 99] 3 3 Try.underlying22 Try.underlying5
  go_wp2_with fail
  have HC3 := C_lit3m w2 97 98 99 (3, 4)
  have HB3 := Aside0.mk (HB2.out.alloc HB2.out.size (.cells #[.int .u8 97, .int .u8 98, .int .u8 99] 5 (3, 4)))
  refine (sha256_Sum.calls (some ⟨w2.heap.size, 0, none⟩) 3 [97, 98, 99] (shaS [97, 98, 99]) _ HC3 (by decide) (by rw [sha256_Sum.f, if_pos (by decide)])).mono ?_
  rintro e w3 ⟨v3, rfl, hr3, hb3⟩
  obtain ⟨A3, c3, rfl⟩ := Kd.R_slice hr3
  have HR3 := Aside0.mk (Kd.R_reads' hr3).2
  have HB4 := Aside0.mk (below_then HB3.out HB3.out.size hb3)
  clear hr3 hb3 HB3 HC3 hcv HB2
  go_wp2_with fail
  refine (chandleryref02_Hex.calls 40 A3 c3 (shaS [97, 98, 99]) hexABC w3 HR3.out.2 HR3.out.1 hex_ABC).mono ?_
  rintro e w4 ⟨rfl, m4, rfl⟩
  have HB5 := Aside0.mk (pw_below_drewN HB4.out m4)
  generalize w3.drewN m4 = w4 at HB5 ⊢
  clear HR3 HB4
  have hA := hexABC_list
  go_wp2_with fail
  go_ret
  exact ⟨rfl, HB5.out⟩
end Go.Proofs.Ytffcegbcjkhnoaa.PC
