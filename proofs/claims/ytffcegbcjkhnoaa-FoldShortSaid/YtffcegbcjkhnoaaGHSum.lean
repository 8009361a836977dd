/- The contracts of the hash's Sum and of sha256.Sum. -/
import Derived.Test.YtffcegbcjkhnoaaGWrite
namespace Go.Proofs.Ytffcegbcjkhnoaa.PC
open Go.RowKit Go.Proofs.YtffcegbcjkhnoaaW.PrintWords Go.Proofs.YtffcegbcjkhnoaaW.PrintLast Go.Proofs.YtffcegbcjkhnoaaW.PrintMore
set_option linter.unusedVariables false
set_option linter.unusedSimpArgs false
theorem hashC8 (st : List Int) (r : Value) (n : Int) (h : st.length = 8) : #[.int .u32 (rd st 0), .int .u32 (rd st 1), .int .u32 (rd st 2), .int .u32 (rd st 3), .int .u32 (rd st 4), .int .u32 (rd st 5), .int .u32 (rd st 6), .int .u32 (rd st 7), r, .int .i64 n] = hashC st r n := by
  match st, h with
  | [a, b, c, d, e, f, g, i], _ => rfl
theorem st8 (st : List Int) (h : st.length = 8) : #[Value.int .u32 (rd st 0), .int .u32 (rd st 1), .int .u32 (rd st 2), .int .u32 (rd st 3), .int .u32 (rd st 4), .int .u32 (rd st 5), .int .u32 (rd st 6), .int .u32 (rd st 7)] = (nums .u32 st).toArray := by
  match st, h with
  | [a, b, c, d, e, f, g, i], _ => rfl
theorem agg_at (cs : Array Value) (hs : cs.size = 8) (v : Value) (t : Nat) (h : t < 8) (hv : cs[t]? = some v) (h1 : v.cells = #[v]) (w : World) : (Instr.index 73 (.agg cs) (.int .i64 (t : Int))).run Try.prog w = .ok v w := by
  obtain ⟨i, hi, hz⟩ := Option.map_eq_some_iff.1 (show (Try.prog.info? 72).map (fun i => i.size) = some 1 by kernel_rfl)
  simp [Instr.index, asIntOf, run_underlying Try.underlying73, sizeOf, typeInfo, hi, hz, part, hv]
  intro h64
  omega
theorem state_at (st : List Int) (hl : st.length = 8) (t : Nat) (h : t < 8) (w : World) : (Instr.index 73 (.agg (nums .u32 st).toArray) (.int .i64 (t : Int))).run Try.prog w = .ok (.int .u32 (rd st (t : Int))) w := by
  refine agg_at _ (by simp [nums, hl]) _ t h ?_ rfl w
  rw [rd, Int.toNat_natCast]
  simp [nums, List.getElem?_eq_getElem (show t < st.length by omega), List.getD_eq_getElem?_getD]
theorem R_make0 {ops : Array Oper} {rest : List Oper} {o : Oper} {a : Act} {Q : Exit → Act → World → Prop} {w0 W : World} (base : Nat) (hgd : o.guard = none) {N : Tmp} (hd : o.dst = some N) (x y : Operand) (ho : o.op = .makeSlice 22 x y)
    (hx : a.eval x = .int .i64 0) (hy : a.eval y = .int .i64 32) (HB : Below base w0 W) (hbase : base ≤ W.heap.size)
    (h : ∀ v1 w1, Kd.R (Kd.int .u8) 5 w1 base (fun _ => True) v1 [] → Below base w0 w1 → W.grownBy w1 none → wpList Try.prog ops Q rest (a.put o.dst v1) w1) : wpList Try.prog ops Q (o :: rest) a W := by
  obtain ⟨i0, hi, hzz⟩ := Option.map_eq_some_iff.1 info5
  simp only [Prod.mk.injEq] at hzz
  obtain ⟨hz0, hz1, hz2⟩ := hzz
  have hr := run_make (P := Try.prog) W 22 5 i0 (.int .u8 0) Try.underlying22 hi hz0 .i64 .i64 (0 : Int) 32 (by omega) (by omega) (by rw [hz2]; decide) (by decide)
  rw [hz1, show (0 : Int).toNat = 0 from rfl, show (32 : Int).toNat = 32 from rfl] at hr
  refine wpList_plain hgd fun K hK => ?_
  unfold Oper.wp
  have hx2 : (execOp a.eval o).run Try.prog W = .ok (.value (.slice (some ⟨W.heap.size, 0, none⟩) 0 32)) (W.alloc (.cells (madeCells #[.int .u8 0] 32) 5)) := by
    simp [execOp, ho, hx, hy, hr]
    rfl
  rw [hx2]
  refine hK _ _ (h _ _ ?_ (HB.alloc hbase _) (World.grownBy_alloc W _ _))
  refine Kd.R_of_own (h1 := fun _ => rfl) ?_ (fun _ _ => trivial)
  refine ⟨by simp [encs], .inr ⟨W.heap.size, 32, madeCells #[.int .u8 0] 32, by simp, hbase, heap_alloc_new W _, by simp, by decide, by simp [size_madeCells], ?_⟩⟩
  simp [encs]
def word4 (x : Int) : List Int := [x / 16777216 % 256, x / 65536 % 256, x / 256 % 256, x % 256]
def outB (st : List Int) (t : Nat) : List Int := (st.take t).flatMap word4
theorem C_lit4 (W : World) (a b c d : Int) : Kd.C (Kd.int .u8) (W.alloc (.cells #[.int .u8 a, .int .u8 b, .int .u8 c, .int .u8 d] 5)) (some ⟨W.heap.size, 0, none⟩) 4 [a, b, c, d] := by
  refine Kd.C_of_reads (d := 0) (h1 := fun _ => rfl) ⟨rfl, by decide, fun _ => ⟨_, rfl, fun j hj => ?_⟩⟩
  have ha : (⟨W.heap.size, 0, none⟩ : Addr).add j = ⟨W.heap.size, j, none⟩ := by unfold Addr.add; split <;> simp_all
  rw [ha, cell_of_row _ _ j _ 5 (0, 0) (heap_alloc_new W _)]
  match j, hj with
  | 0, _ => rfl
  | 1, _ => rfl
  | 2, _ => rfl
  | 3, _ => rfl
theorem outB_succ (S : List Int) (t : Nat) (h : t < S.length) : outB S t ++ word4 (rd S (t : Int)) = outB S (t + 1) := by
  unfold outB
  rw [List.take_succ_eq_append_getElem h, List.flatMap_append, rd, Int.toNat_natCast, List.getD_eq_getElem?_getD, List.getElem?_eq_getElem h]
  simp
theorem outB_length (S : List Int) (t : Nat) (h : t ≤ S.length) : (outB S t).length = 4 * t := by
  induction t with
  | zero => rfl
  | succ t ih => rw [← outB_succ S t h, List.length_append, ih (by omega)]; rfl
set_option maxRecDepth 100000 in
theorem hsum_calls (g c1 : Nat) (A1 : Option Addr) (st l1 : List Int) (n : Int) (hst : st.length = 8) (hl1 : l1.length ≤ 1000) (hc1 : l1.length ≤ c1) (hn : 0 ≤ n) (hn2 : n ≤ 1000000000) (w : World) (hr1 : Kd.C (Kd.int .u8) w A1 l1.length l1) (hH : HashAt w g st (.slice A1 l1.length c1) n) :
    Calls Try.prog 42 #[.pointer (some ⟨g, 0, none⟩)] w fun e w' => ∃ v, e = .returned (.tuple #[v, .int .i64 0]) ∧ Kd.R (Kd.int .u8) 5 w' w.heap.size (fun _ => True) v (outB (takeK st (l1 ++ padS n) ((l1 ++ padS n).length / 64)) 8) ∧ Below w.heap.size w w' := by
  have HR1 := Aside0.mk hr1
  have HH0 := Aside0.mk hH
  have hglt : g < w.heap.size := (Array.getElem?_eq_some_iff.1 hH).1
  have d9 : w.cell? ⟨g, 9, none⟩ = some (.int .i64 n) := by
    rw [cell_of_row w _ 9 _ 75 (0, 0) hH]
    exact hashC_num _ _ _ hst
  clear hr1 hH
  go_enter Try.func42, Try.ntmps42
  go_wp2_with fail
  refine (sha256_Pad.calls n (padS n) 0 w (by unfold sha256_Pad.f; rw [if_neg (by omega)])).mono ?_
  rintro e w1 ⟨vp, rfl, hrp, hbp⟩
  obtain ⟨Ap, cp, rfl⟩ := Kd.R_slice hrp
  have HRp := Aside0.mk hrp
  have HBp := Aside0.mk hbp
  have HH1 : Aside0 (HashAt w1 g st (.slice A1 l1.length c1) n) := ⟨by
    unfold HashAt
    rw [hbp.block g hglt]
    exact HH0.out⟩
  clear hrp hbp d9
  have gl1 : g < w1.heap.size := by have := HBp.out.size; omega
  have hb0 : ∀ j, j < 8 → w1.cell? ⟨g, j, none⟩ = some (.int .u32 (rd st (j : Int))) := fun j hj => by
    rw [cell_of_row w1 g j _ 75 (0, 0) HH1.out]
    exact hashC_cell _ _ _ hst j hj
  have s0 := hb0 0 (by omega)
  have s1 := hb0 1 (by omega)
  have s2 := hb0 2 (by omega)
  have s3 := hb0 3 (by omega)
  have s4 := hb0 4 (by omega)
  have s5 := hb0 5 (by omega)
  have s6 := hb0 6 (by omega)
  have s7 := hb0 7 (by omega)
  clear hb0
  rw [show ((0 : Nat) : Int) = 0 from rfl] at s0
  rw [show ((1 : Nat) : Int) = 1 from rfl] at s1
  rw [show ((2 : Nat) : Int) = 2 from rfl] at s2
  rw [show ((3 : Nat) : Int) = 3 from rfl] at s3
  rw [show ((4 : Nat) : Int) = 4 from rfl] at s4
  rw [show ((5 : Nat) : Int) = 5 from rfl] at s5
  rw [show ((6 : Nat) : Int) = 6 from rfl] at s6
  rw [show ((7 : Nat) : Int) = 7 from rfl] at s7
  go_upto_region 7 with fail
  rw [hashC8 st _ _ hst]
  clear s0 s1 s2 s3 s4 s5 s6 s7
  generalize hE : w1.heap.size = E
  have hEw : w.heap.size ≤ E := by have := HBp.out.size; omega
  generalize hW : w1.alloc (.cells (hashC st (.slice none 0 0) 0) 75) = W2
  have hB12 : Below w1.heap.size w1 W2 := by rw [← hW]; exact (Below.refl _ _).alloc (Nat.le_refl _) _
  have HHE : Aside0 (HashAt W2 E st (.slice none 0 0) 0) := ⟨by
    unfold HashAt
    rw [← hW, ← hE]
    exact heap_alloc_new w1 _⟩
  have HRp2 := Aside0.mk (Kd.R_below HRp.out hB12)
  have HB2 := Aside0.mk (below_then HBp.out HBp.out.size hB12)
  have HH2 : Aside0 (HashAt W2 g st (.slice A1 l1.length c1) n) := ⟨by
    unfold HashAt
    rw [hB12.block g gl1]
    exact HH1.out⟩
  have hEW : E < W2.heap.size := (Array.getElem?_eq_some_iff.1 HHE.out).1
  have d8 : W2.cell? ⟨g, 8, none⟩ = some (.slice A1 l1.length c1) := by
    rw [cell_of_row W2 _ 8 _ 75 (0, 0) HH2.out]
    exact hashC_rest _ _ _ hst
  clear hW hB12
  go_wp2_with fail
  generalize hO : (Obj.cells #[Value.slice A1 l1.length c1, Value.slice Ap (padS n).length cp] 22) = O
  have hnew : (W2.alloc O).heap[W2.heap.size]? = some (.cells #[Value.slice A1 l1.length c1, Value.slice Ap (padS n).length cp] 22 (0, 0)) := by
    rw [heap_alloc_new, ← hO]
  have hpl : (padS n).length ≤ 1000 := by simp [padS]; omega
  refine (concat_calls W2.heap.size c1 cp A1 Ap l1 (padS n) (W2.alloc O) (by omega) (by omega) hc1 (Kd.R_reads' HRp2.out).2.1 (by rw [cell_of_row _ _ 0 _ 22 (0, 0) hnew]; rfl) (by rw [cell_of_row _ _ 1 _ 22 (0, 0) hnew]; rfl) (Kd.C_alloc (Kd.C_below HR1.out HB2.out) _) (Kd.C_alloc (Kd.R_reads' HRp2.out).2.2 _)).mono ?_
  rintro e w3 ⟨v3, rfl, hR3, hB3⟩
  have hB4 : Below W2.heap.size W2 w3 := below_alloc_then _ hB3
  have hsz1 := alloc_size W2 O
  have HHE3 : Aside0 (HashAt w3 E st (.slice none 0 0) 0) := ⟨by
    unfold HashAt
    rw [hB4.block E hEW]
    exact HHE.out⟩
  have HB4 := Aside0.mk (below_then HB2.out (by omega) hB4)
  have hsz3 : W2.heap.size ≤ w3.heap.size := hB4.size
  obtain ⟨Av, cv, rfl⟩ := Kd.R_slice hR3
  have hcv := (Kd.R_reads' hR3).2
  have HRv := Aside0.mk hR3
  clear hR3 hB3 hB4 d8 HHE HB2 HH2 HRp2
  go_wp2_with fail
  rw [← List.length_append]
  refine (take_calls E cv Av st (l1 ++ padS n) (.slice none 0 0) 0 hst (by rw [List.length_append]; omega) hcv.1 w3 hcv.2 (fun ad he => ?_) HHE3.out).mono ?_
  · have := R_addr HRv.out ad he
    exact ⟨this.1, by omega⟩
  rintro e w4 ⟨rfl, hg4, v4, hh4, hr4⟩
  have HH4 := Aside0.mk hh4
  have HB5 := Aside0.mk (HB4.out.grown hg4 (by omega) (by intro k hk; cases hk; exact hEw))
  clear hg4 hh4 hr4 hcv HRv HHE3
  generalize hS : takeK st (l1 ++ padS n) ((l1 ++ padS n).length / 64) = S at HH4
  have hSl : S.length = 8 := by rw [← hS]; exact takeK_length st _ hst _
  have hb0 : ∀ j, j < 8 → w4.cell? ⟨E, j, none⟩ = some (.int .u32 (rd S (j : Int))) := fun j hj => by
    rw [cell_of_row w4 E j _ 75 (0, 0) HH4.out]
    exact hashC_cell _ _ _ hSl j hj
  have s0 := hb0 0 (by omega)
  have s1 := hb0 1 (by omega)
  have s2 := hb0 2 (by omega)
  have s3 := hb0 3 (by omega)
  have s4 := hb0 4 (by omega)
  have s5 := hb0 5 (by omega)
  have s6 := hb0 6 (by omega)
  have s7 := hb0 7 (by omega)
  clear hb0
  rw [show ((0 : Nat) : Int) = 0 from rfl] at s0
  rw [show ((1 : Nat) : Int) = 1 from rfl] at s1
  rw [show ((2 : Nat) : Int) = 2 from rfl] at s2
  rw [show ((3 : Nat) : Int) = 3 from rfl] at s3
  rw [show ((4 : Nat) : Int) = 4 from rfl] at s4
  rw [show ((5 : Nat) : Int) = 5 from rfl] at s5
  rw [show ((6 : Nat) : Int) = 6 from rfl] at s6
  rw [show ((7 : Nat) : Int) = 7 from rfl] at s7
  have hEw4 : E < w4.heap.size := (Array.getElem?_eq_some_iff.1 HH4.out).1
  go_upto_region 9 with ((with_reducible refine gate_dst (N := 36) rfl ?_); refine R_make0 w.heap.size rfl (N := 36) rfl _ _ rfl rfl rfl HB5.out (by omega) ?_; intro v5 w5 hr5 hb5 hg5)
  have HR5 := Aside0.mk hr5
  have HB6 := Aside0.mk hb5
  have hE5 : ∀ j, w5.cell? ⟨E, j, none⟩ = w4.cell? ⟨E, j, none⟩ := fun j => World.cell?_of_block (hg5.block E hEw4 (by simp))
  rw [← hE5] at s0 s1 s2 s3 s4 s5 s6 s7
  clear hr5 hb5 hg5 HB5 HH4 hE5
  go_wp2_with fail
  rw [st8 S hSl]
  clear s0 s1 s2 s3 s4 s5 s6 s7
  go_loopw [7, 39] (fun v i wr => ∃ t : Nat, t ≤ 8 ∧ i = .int .i64 t ∧ Aside0 (Kd.R (Kd.int .u8) 5 wr w.heap.size (fun _ => True) v (outB S t)) ∧ Aside0 (Below w.heap.size w wr)) (fun _ i _ => 8 - (intOf i).toNat)
  case atStart => exact ⟨0, by omega, rfl, HR5, HB6⟩
  case round =>
    obtain ⟨t, ht, rfl, HO, HB⟩ := hrel
    by_cases hlt : t < 8
    · have hk := state_at S hSl t hlt
      go_wp2_with ((with_reducible refine gate_builtin (b := .append) (xs := #[.tmp 42, .tmp 54]) rfl ?_); refine Kd.R_append_rows (Kd.int .u8) (w0 := w) w.heap.size rfl (.tmp 42) (.tmp 54) 22 5 (.int .u8 0) 1 rfl Try.underlying22 info5 rfl (by decide) (by omega) _ (outB S t) (word4 (rd S (t : Int))) (some ⟨wr.heap.size, 0, none⟩) 4 4 (fun _ => True) (fun _ => False) rfl rfl ?aO ?aR (fun _ _ h => h) (fun _ h => h.elim) ?aF ?aB ?aS ?aL ?_; (case aR => exact C_lit4 wr _ _ _ _); (case aB => exact HB.out.alloc (by have := HB.out.size; omega) _); (case aF => exact (fun _ _ => trivial)); (case aO => exact Kd.R_alloc HO.out _); (case aS => rw [alloc_size]; have := HB.out.size; omega); (case aL => rw [outB_length S t (by omega)]; omega); intro v6 w6 ho hb hg hat; have HO2 := Aside0.mk ho; have HB2 := Aside0.mk hb; clear HB HO ho hb hg hat hk)
      go_roundw
      case rel => exact ⟨t + 1, by omega, by go_num, ⟨by rw [← outB_succ S t (by omega)]; exact HO2.out⟩, HB2⟩
      case measure => simp [intOf]; omega
    · obtain rfl : t = 8 := by omega
      go_wp2_with fail
      go_ret2
      exact ⟨_, rfl, by rw [hS]; exact HO.out, HB.out⟩
end Go.Proofs.Ytffcegbcjkhnoaa.PC
