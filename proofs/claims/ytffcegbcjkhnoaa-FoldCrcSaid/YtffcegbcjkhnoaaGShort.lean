/- The contract of fold.Short: the digits of the folded digest. -/
import Derived.Test.YtffcegbcjkhnoaaGSum
import Derived.Test.YtffcegbcjkhnoaaCFold
import Derived.Test.YtffcegbcjkhnoaaCBase
namespace Go.Proofs.Ytffcegbcjkhnoaa.PC
open Go.RowKit Go.Proofs.YtffcegbcjkhnoaaW.PrintWords Go.Proofs.YtffcegbcjkhnoaaW.PrintLast Go.Proofs.YtffcegbcjkhnoaaW.PrintMore
set_option linter.unusedVariables false
set_option linter.unusedSimpArgs false
def fold_Short.f (a0 : ByteArray) : Option ByteArray := (sha256_Sum.f (bytesOf a0)).bind fun t => (fold_Fold.f 100 t 20).bind fun p => base_Encode.f 400 p.1
theorem C_bytes (W : World) (s : ByteArray) (hs : s.size ≤ 9223372036854775807) : Kd.C (Kd.int .u8) (Lib.bytesWorld W 5 s) (some ⟨W.heap.size, 0, none⟩) (bytesOf s).length (bytesOf s) := by
  rw [bytesOf_length]
  exact Kd.C_of_reads (d := 0) (h1 := fun _ => rfl) (bytes_reads W 5 s hs)
set_option maxRecDepth 100000 in
theorem fold_Short.calls (a0 : ByteArray) (r : ByteArray) (w : World) (h : fold_Short.f a0 = some r) :
    Calls Try.prog 32 #[.string a0] w fun e w' => e = .returned (.string r) ∧ Below w.heap.size w w' := by
  unfold fold_Short.f at h
  obtain ⟨t, h1, h⟩ := Option.bind_eq_some_iff.mp h
  obtain ⟨⟨p, e⟩, h2, h3⟩ := Option.bind_eq_some_iff.mp h
  have hn : (bytesOf a0).length ≤ 1000000000 := by
    unfold sha256_Sum.f at h1
    by_cases hc : (bytesOf a0).length ≤ 1000000000
    · exact hc
    · rw [if_neg hc] at h1
      cases h1
  have H1 := Aside0.mk h1
  have H2 := Aside0.mk h2
  have H3 := Aside0.mk h3
  clear h h1 h2 h3
  have hcv := print_bytes (P := Try.prog) 9 22 5 Try.underlying9 Try.underlying22 Try.underlying5 a0 w
  go_enter Try.func32, Try.ntmps32
  go_wp2_with fail
  have hsz := bytesOf_length a0
  have hx := sha256_Sum.calls (some ⟨w.heap.size, 0, none⟩) (grownCap w a0.size 0 5) (bytesOf a0) t (Lib.bytesWorld w 5 a0) (C_bytes w a0 (by omega)) (by rw [hsz]; exact grownCap_ge w _ _ _) H1.out
  rw [hsz] at hx
  refine hx.mono ?_
  have HB0 := Aside0.mk (bytes_below (Below.refl w.heap.size w) (Nat.le_refl _) 5 a0)
  clear hx hcv
  generalize Lib.bytesWorld w 5 a0 = wb at HB0 ⊢
  rintro e2 w1 ⟨v1, rfl, hr1, hb1⟩
  obtain ⟨A1, c1, rfl⟩ := Kd.R_slice hr1
  have HR1 := Aside0.mk (Kd.R_reads' hr1).2
  have HB1 := Aside0.mk (below_then HB0.out HB0.out.size hb1)
  clear hr1 hb1 HB0
  go_wp2_with fail
  refine (fold_Fold.calls 100 A1 c1 t 20 p e w1 HR1.out.2 HR1.out.1 H2.out).mono ?_
  rintro e3 w2 ⟨v2, rfl, hr2, hb2⟩
  obtain ⟨A2, c2, rfl⟩ := Kd.R_slice hr2
  have HR2 := Aside0.mk (Kd.R_reads' hr2).2
  have HB2 := Aside0.mk (below_then HB1.out HB1.out.size hb2)
  clear hr2 hb2 HB1 HR1
  go_wp2_with fail
  refine (base_Encode.calls 400 A2 c2 p r w2 HR2.out.2 HR2.out.1 H3.out).mono ?_
  rintro e4 w3 ⟨rfl, hb3⟩
  have HB3 := Aside0.mk (below_then HB2.out HB2.out.size hb3)
  clear hb3
  go_wp2_with fail
  go_ret
  exact ⟨rfl, HB3.out⟩
end Go.Proofs.Ytffcegbcjkhnoaa.PC
