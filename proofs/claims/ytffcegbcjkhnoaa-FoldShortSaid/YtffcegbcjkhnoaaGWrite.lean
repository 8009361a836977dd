/- The contracts of the hash's Write and Sum and of sha256.Sum. -/
import Derived.Test.YtffcegbcjkhnoaaGTake
import Derived.Test.YtffcegbcjkhnoaaGPad
namespace Go.Proofs.Ytffcegbcjkhnoaa.PC
open Go.RowKit Go.Proofs.YtffcegbcjkhnoaaW.PrintWords Go.Proofs.YtffcegbcjkhnoaaW.PrintLast Go.Proofs.YtffcegbcjkhnoaaW.PrintMore
set_option linter.unusedVariables false
set_option linter.unusedSimpArgs false
theorem R_addr {e base : Nat} {w : World} {A : Option Addr} {c n : Nat} {l : List Int} (h : Kd.R (Kd.int .u8) e w base (fun _ => True) (.slice A n c) l) : ∀ ad, A = some ad → ad.spot = none ∧ base ≤ ad.block := by
  intro ad he
  subst he
  obtain ⟨inner, -, ho⟩ := Kd.R_own h
  rcases ho with ⟨h1, -⟩ | ⟨g, cap, cur, h1, h2, -⟩
  · cases h1
  · cases h1
    exact ⟨rfl, h2⟩
theorem alloc_size (w : World) (o : Obj) : (w.alloc o).heap.size = w.heap.size + 1 := Array.size_push _
theorem below_alloc_then {w w2 : World} (o : Obj) (h : Below (w.alloc o).heap.size (w.alloc o) w2) : Below w.heap.size w w2 := below_then ((Below.refl w.heap.size w).alloc (Nat.le_refl _) _) (by rw [alloc_size]; omega) h
theorem grown_set (w : World) (g j : Nat) (v : Value) : w.grownBy (w.setCell ⟨g, j, none⟩ v) (some g) :=
  ⟨rfl, rfl, rfl, by simp [World.setCell], fun i hi hn => Below.heap_setCell w ⟨g, j, none⟩ _ i (by simpa using hn)⟩
set_option maxRecDepth 100000 in
theorem write_calls (g c1 c2 : Nat) (A1 A2 : Option Addr) (st l1 l2 : List Int) (n : Int) (hst : st.length = 8) (hl1 : l1.length ≤ 1000) (hl2 : l2.length ≤ 1000000000) (hc1 : l1.length ≤ c1) (hc2 : l2.length ≤ c2) (hn : 0 ≤ n) (hn2 : n ≤ 1000000000) (w : World) (hr1 : Kd.C (Kd.int .u8) w A1 l1.length l1) (hr2 : Kd.C (Kd.int .u8) w A2 l2.length l2) (hH : HashAt w g st (.slice A1 l1.length c1) n) (hne1 : ∀ ad, A1 = some ad → 0 < l1.length → ad.block ≠ g) (hne2 : ∀ ad, A2 = some ad → 0 < l2.length → ad.block ≠ g) :
    Calls Try.prog 41 #[.pointer (some ⟨g, 0, none⟩), .slice A2 l2.length c2] w fun e w' => e = .returned (.int .i64 0) ∧ w.grownBy w' (some g) ∧ ∃ v, HashAt w' g (takeK st (l1 ++ l2) ((l1 ++ l2).length / 64)) v (n + l2.length) ∧ Kd.R (Kd.int .u8) 5 w' w.heap.size (fun _ => True) v ((l1 ++ l2).drop (64 * ((l1 ++ l2).length / 64))) := by
  have HR1 := Aside0.mk hr1
  have HR2 := Aside0.mk hr2
  have HN1 := Aside0.mk hne1
  have HN2 := Aside0.mk hne2
  have HH0 := Aside0.mk hH
  have hglt : g < w.heap.size := (Array.getElem?_eq_some_iff.1 hH).1
  have d9 : w.cell? ⟨g, 9, none⟩ = some (.int .i64 n) := by
    rw [cell_of_row w _ 9 _ 75 (0, 0) hH]
    exact hashC_num _ _ _ hst
  have f9 : w.frozen? ⟨g, 9, none⟩ = false := frozen_of_row w _ 9 _ 75 hH
  have hsum : IntKind.i64.wrap (n + (l2.length : Int)) = n + (l2.length : Int) := IntWalk.i64_in _ (by omega)
  have hsum2 : wrap64 (n + (l2.length : Int)) = n + (l2.length : Int) := w64 (by omega) (by omega)
  clear hr1 hr2 hH hne1 hne2
  go_enter Try.func41, Try.ntmps41
  go_upto_region 4 with fail
  have HG1 := Aside0.mk (grown_set w g 9 (.int .i64 (n + l2.length)))
  have HH1 : Aside0 (HashAt (w.setCell ⟨g, 9, none⟩ (.int .i64 (n + l2.length))) g st (.slice A1 l1.length c1) (n + l2.length)) := ⟨by
    unfold HashAt
    rw [heap_setCell_at HH0.out, hashC_putNum _ _ _ _ hst]⟩
  have HR1' := Aside0.mk (C_grown HR1.out HG1.out HN1.out)
  have HR2' := Aside0.mk (C_grown HR2.out HG1.out HN2.out)
  generalize w.setCell ⟨g, 9, none⟩ (.int .i64 (n + l2.length)) = W1 at *
  clear d9 f9
  have d8 : W1.cell? ⟨g, 8, none⟩ = some (.slice A1 l1.length c1) := by
    rw [cell_of_row W1 _ 8 _ 75 (0, 0) HH1.out]
    exact hashC_rest _ _ _ hst
  go_wp2_with fail
  have gl1 : g < W1.heap.size := (Array.getElem?_eq_some_iff.1 HH1.out).1
  generalize hO : (Obj.cells #[Value.slice A1 l1.length c1, Value.slice A2 l2.length c2] 22) = O
  have hnew : (W1.alloc O).heap[W1.heap.size]? = some (.cells #[Value.slice A1 l1.length c1, Value.slice A2 l2.length c2] 22 (0, 0)) := by
    rw [heap_alloc_new, ← hO]
  refine (concat_calls W1.heap.size c1 c2 A1 A2 l1 l2 (W1.alloc O) (by omega) (by omega) hc1 hc2 (by rw [cell_of_row _ _ 0 _ 22 (0, 0) hnew]; rfl) (by rw [cell_of_row _ _ 1 _ 22 (0, 0) hnew]; rfl) (Kd.C_alloc HR1'.out _) (Kd.C_alloc HR2'.out _)).mono ?_
  rintro e w2 ⟨v2, rfl, hR2, hB2⟩
  have hB3 : Below W1.heap.size W1 w2 := below_alloc_then _ hB2
  have hsz1 := alloc_size W1 O
  have HH2 : Aside0 (HashAt w2 g st (.slice A1 l1.length c1) (n + l2.length)) := ⟨by
    unfold HashAt
    rw [hB3.block g gl1]
    exact HH1.out⟩
  have HG2 := Aside0.mk (grown_below HG1.out hB3)
  have hsz2 : w.heap.size ≤ W1.heap.size := HG1.out.size
  have hsz3 : W1.heap.size ≤ w2.heap.size := hB3.size
  obtain ⟨Av, cv, rfl⟩ := Kd.R_slice hR2
  have hcv := (Kd.R_reads' hR2).2
  have HRv := Aside0.mk hR2
  clear hR2 hB2 hB3
  go_wp2_with fail
  rw [← List.length_append]
  refine (take_calls g cv Av st (l1 ++ l2) (.slice A1 l1.length c1) (n + l2.length) hst (by rw [List.length_append]; omega) hcv.1 w2 hcv.2 (fun ad he => ?_) HH2.out).mono ?_
  · have := R_addr HRv.out ad he
    exact ⟨this.1, by omega⟩
  rintro e w3 ⟨rfl, hg3, v3, hh3, hr3⟩
  have HG3 := Aside0.mk (grown_trans HG2.out hg3)
  have HH3 := Aside0.mk hh3
  have HR3 := Aside0.mk (Kd.R_lower hr3 (show w.heap.size ≤ w2.heap.size by omega))
  clear hg3 hh3 hr3
  go_wp2_with fail
  go_ret
  exact ⟨rfl, HG3.out, v3, HH3.out, HR3.out⟩
end Go.Proofs.Ytffcegbcjkhnoaa.PC
