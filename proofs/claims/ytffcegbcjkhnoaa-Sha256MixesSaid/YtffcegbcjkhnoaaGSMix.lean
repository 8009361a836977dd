/- The contract of sha256.Mix: a block into a state, or refused. -/
import Derived.Test.YtffcegbcjkhnoaaGRefMix
import Derived.Test.YtffcegbcjkhnoaaGHSum
import Derived.Laws.ResultCell
namespace Go.Proofs.Ytffcegbcjkhnoaa.PC
open Go.RowKit Go.Proofs.YtffcegbcjkhnoaaW.PrintWords Go.Proofs.YtffcegbcjkhnoaaW.PrintLast Go.Proofs.YtffcegbcjkhnoaaW.PrintMore
set_option linter.unusedVariables false
set_option linter.unusedSimpArgs false
theorem arr_at (ss : List Int) (hl : ss.length = 8) (t : Nat) (h : t < 8) (w : World) : (Instr.index 55 (.agg (nums .i64 ss).toArray) (.int .i64 (t : Int))).run Try.prog w = .ok (.int .i64 (rd ss (t : Int))) w := by
  have hv : (nums .i64 ss).toArray[t]? = some (.int .i64 (rd ss (t : Int))) := by
    rw [rd, Int.toNat_natCast]
    simp [nums, List.getElem?_eq_getElem (show t < ss.length by omega), List.getD_eq_getElem?_getD]
  have hs : (nums .i64 ss).toArray.size = 8 := by simp [nums, hl]
  obtain ⟨i, hi, hz⟩ := Option.map_eq_some_iff.1 (show (Try.prog.info? 3).map (fun i => i.size) = some 1 by kernel_rfl)
  have hv2 : (nums .i64 ss)[t]? = some (.int .i64 (rd ss (t : Int))) := by simpa using hv
  simp [Instr.index, asIntOf, run_underlying Try.underlying55, sizeOf, typeInfo, hi, hz, part, hv2, h]
theorem st8i (st : List Int) (h : st.length = 8) : #[Value.int .i64 (rd st 0), .int .i64 (rd st 1), .int .i64 (rd st 2), .int .i64 (rd st 3), .int .i64 (rd st 4), .int .i64 (rd st 5), .int .i64 (rd st 6), .int .i64 (rd st 7)] = (nums .i64 st).toArray := by
  match st, h with
  | [a, b, c, d, e, f, g, i], _ => rfl
theorem results_two {P : Program} {fn : Func} {p u : Tmp} {ty : TypeId} (h : fn.results = #[.cell p ty, .tmp u]) (tmps : Array Value) (w : World) (g : Nat) (t : TypeId) (cs : Array Value) (fr : Nat × Nat) (d : TypeDesc)
    (hp : tmps.getD p undef = .pointer (some ⟨g, 0, none⟩)) (hg : w.heap[g]? = some (.cells cs t fr))
    (hu : P.underlying ty = some d) (hd : (match d with | .struct _ | .array _ _ => true | _ => false) = true) (hi : (P.info? ty).map (·.size) = some cs.size) :
    (results fn tmps).run P w = .ok (.tuple #[.agg cs, tmps.getD u undef]) w := by
  rw [results_cell_tmp h, hp]
  simp [asAddr, Result.andThen, run_loadVar_row w g t ty cs fr d hg hu hd hi]
theorem info55 : (Try.prog.info? 55).map (·.size) = some 8 := by kernel_rfl
theorem nums_size (k : IntKind) (l : List Int) : (nums k l).toArray.size = l.length := by simp [nums]
theorem nums_one (k : IntKind) (l : List Int) : (nums k l).toArray.all (·.oneCell') = true := by
  simp [nums, Value.oneCell']
theorem Arr8.row {w : World} {g : Nat} {xs : List Int} (h : Arr8 w g xs) (ys : List Int) (hl : ys.length = 8) : Arr8 (w.setRow g (nums .i64 ys).toArray) g ys :=
  ⟨hl, setRow_heap _ _ _ _ _ _ h.blk⟩
theorem Arr8.otherRow {w : World} {g : Nat} {xs : List Int} (h : Arr8 w g xs) {k : Nat} (hne : g ≠ k) (cs : Array Value) : Arr8 (w.setRow k cs) g xs :=
  ⟨h.len, by rw [setRow_other _ _ _ _ hne]; exact h.blk⟩
theorem Arr8.other {w : World} {g : Nat} {xs : List Int} (h : Arr8 w g xs) {a : Addr} (hne : g ≠ a.block) (v : Value) : Arr8 (w.setCell a v) g xs :=
  ⟨h.len, by rw [Below.heap_setCell _ _ _ _ hne]; exact h.blk⟩
theorem okW_false {l : List Int} (i : Nat) (hi : i < l.length) (h : ¬ U (rd l (i : Int))) : okW l = false := by
  cases h2 : okW l
  · rfl
  · exact absurd (U_rd (okW_U h2) _) h
theorem okW_ofU {l : List Int} (h : ∀ x ∈ l, U x) : okW l = true := List.all_eq_true.2 fun x hx => decide_eq_true (h x hx)
theorem putTo_all (cs : Array Value) (ys : List Int) (hc : cs.size = 8) (hy : ys.length = 8) : putTo cs ys 8 = (nums .u32 ys).toArray := by
  unfold putTo
  rw [List.take_of_length_le (by omega), List.drop_of_length_le (by simpa using Nat.le_of_eq hc), List.append_nil]
theorem inV_full (l : List Int) (h : l.length = 8) : inV l 8 = l := by
  obtain ⟨a, b, c, d, e, f, g, k, rfl⟩ := eight l h
  rfl
def smixV (ss l1 : List Int) : List Int := if okW ss = true ∧ l1.length = 64 then mixS ss l1 else [0, 0, 0, 0, 0, 0, 0, 0]
def smixE (ss l1 : List Int) : Int := if okW ss = true ∧ l1.length = 64 then 0 else 1
set_option maxRecDepth 100000 in
theorem smix_calls (ss : List Int) (h8 : ss.length = 8) (A : Option Addr) (c : Nat) (l1 : List Int) (w : World) (hr : Kd.C (Kd.int .u8) w A l1.length l1) (hc : l1.length ≤ c) (hA : l1.length = 64 → ∃ ab ao, A = some ⟨ab, ao, none⟩) :
    Calls Try.prog 43 #[.agg (nums .i64 ss).toArray, .slice A l1.length c] w fun e w' => e = .returned (.tuple #[.agg (nums .i64 (smixV ss l1)).toArray, .int .i64 (smixE ss l1)]) ∧ Below w.heap.size w w' := by
  have HR := Aside0.mk hr
  have HC := Aside0.mk hc
  have HA := Aside0.mk hA
  have H8 := Aside0.mk h8
  clear hr hc hA h8
  go_enter Try.func43, Try.ntmps43
  go_upto_region 2 with fail
  have HB := Aside0.mk ((((Below.refl w.heap.size w).alloc (Nat.le_refl _) (.cells (nums .i64 ss).toArray 55)).alloc (by simp only [alloc_size]; omega) (.cells (nums .i64 [0, 0, 0, 0, 0, 0, 0, 0]).toArray 55)).alloc (by simp only [alloc_size]; omega) (.cells (nums .u32 (inV ss 0)).toArray 73))
  have HS0 : Aside0 (Arr8 (((w.alloc (.cells (nums .i64 ss).toArray 55)).alloc (.cells (nums .i64 [0, 0, 0, 0, 0, 0, 0, 0]).toArray 55)).alloc (.cells (nums .u32 (inV ss 0)).toArray 73)) w.heap.size ss) := ⟨H8.out, by
    have h1 := heap_alloc_new w (.cells (nums .i64 ss).toArray 55)
    have b1 := (Below.refl (w.alloc (.cells (nums .i64 ss).toArray 55)).heap.size (w.alloc (.cells (nums .i64 ss).toArray 55))).alloc (Nat.le_refl _) (.cells (nums .i64 [0, 0, 0, 0, 0, 0, 0, 0]).toArray 55)
    have b2 := b1.alloc (by simp only [alloc_size]; omega) (.cells (nums .u32 (inV ss 0)).toArray 73)
    rw [b2.block w.heap.size (by simp only [alloc_size]; omega)]
    exact h1⟩
  have HO0 : Aside0 (Arr8 (((w.alloc (.cells (nums .i64 ss).toArray 55)).alloc (.cells (nums .i64 [0, 0, 0, 0, 0, 0, 0, 0]).toArray 55)).alloc (.cells (nums .u32 (inV ss 0)).toArray 73)) (w.heap.size + 1) [0, 0, 0, 0, 0, 0, 0, 0]) := ⟨rfl, by
    have h1 := heap_alloc_new (w.alloc (.cells (nums .i64 ss).toArray 55)) (.cells (nums .i64 [0, 0, 0, 0, 0, 0, 0, 0]).toArray 55)
    have b1 := (Below.refl ((w.alloc (.cells (nums .i64 ss).toArray 55)).alloc (.cells (nums .i64 [0, 0, 0, 0, 0, 0, 0, 0]).toArray 55)).heap.size _).alloc (Nat.le_refl _) (.cells (nums .u32 (inV ss 0)).toArray 73)
    rw [b1.block (w.heap.size + 1) (by simp only [alloc_size]; omega)]
    rw [alloc_size] at h1
    exact h1⟩
  have HN0 : Aside0 (Arr (((w.alloc (.cells (nums .i64 ss).toArray 55)).alloc (.cells (nums .i64 [0, 0, 0, 0, 0, 0, 0, 0]).toArray 55)).alloc (.cells (nums .u32 (inV ss 0)).toArray 73)) (w.heap.size + 1 + 1) 73 8 (inV ss 0)) := ⟨inV_length ss 0 (by omega) H8.out, by
    have h1 := heap_alloc_new ((w.alloc (.cells (nums .i64 ss).toArray 55)).alloc (.cells (nums .i64 [0, 0, 0, 0, 0, 0, 0, 0]).toArray 55)) (.cells (nums .u32 (inV ss 0)).toArray 73)
    rw [alloc_size, alloc_size] at h1
    exact h1⟩
  change Code.wp _ _ _ _ (((w.alloc (.cells (nums .i64 ss).toArray 55)).alloc (.cells (nums .i64 [0, 0, 0, 0, 0, 0, 0, 0]).toArray 55)).alloc (.cells (nums .u32 (inV ss 0)).toArray 73))
  generalize ((w.alloc (.cells (nums .i64 ss).toArray 55)).alloc (.cells (nums .i64 [0, 0, 0, 0, 0, 0, 0, 0]).toArray 55)).alloc (.cells (nums .u32 (inV ss 0)).toArray 73) = w0 at HB HS0 HO0 HN0 ⊢
  obtain ⟨g0, hg0⟩ : ∃ g, g = w.heap.size := ⟨_, rfl⟩
  obtain ⟨g1, hg1⟩ : ∃ g, g = w.heap.size + 1 := ⟨_, rfl⟩
  obtain ⟨g2, hg2⟩ : ∃ g, g = w.heap.size + 1 + 1 := ⟨_, rfl⟩
  rw [← hg2] at HN0 ⊢
  rw [← hg1] at HO0 ⊢
  rw [← hg0] at HS0
  have G1 := Aside0.mk hg1
  have G2 := Aside0.mk hg2
  rw [show Value.pointer (some ⟨w.heap.size, 0, none⟩) = Value.pointer (some ⟨g0, 0, none⟩) by rw [hg0]]
  clear hg0 hg1 hg2
  have s0 := HS0.out.cell 0 (by omega)
  have s1 := HS0.out.cell 1 (by omega)
  have s2 := HS0.out.cell 2 (by omega)
  have s3 := HS0.out.cell 3 (by omega)
  have s4 := HS0.out.cell 4 (by omega)
  have s5 := HS0.out.cell 5 (by omega)
  have s6 := HS0.out.cell 6 (by omega)
  have s7 := HS0.out.cell 7 (by omega)
  rw [show ((0 : Nat) : Int) = 0 from rfl] at s0
  rw [show ((1 : Nat) : Int) = 1 from rfl] at s1
  rw [show ((2 : Nat) : Int) = 2 from rfl] at s2
  rw [show ((3 : Nat) : Int) = 3 from rfl] at s3
  rw [show ((4 : Nat) : Int) = 4 from rfl] at s4
  rw [show ((5 : Nat) : Int) = 5 from rfl] at s5
  rw [show ((6 : Nat) : Int) = 6 from rfl] at s6
  rw [show ((7 : Nat) : Int) = 7 from rfl] at s7
  have hst := st8i ss H8.out
  go_wp2_with fail
  have HN := HN0
  have HO := HO0
  clear s0 s1 s2 s3 s4 s5 s6 s7 hst HS0 HN0 HO0
  go_loopw [13] (fun v wr => ∃ i : Nat, i ≤ 8 ∧ v = .int .i64 i ∧ Aside0 (∀ j : Nat, j < i → U (rd ss (j : Int))) ∧ Aside0 (Arr wr g2 73 8 (inV ss i)) ∧ Aside0 (Arr8 wr g1 [0, 0, 0, 0, 0, 0, 0, 0]) ∧ Aside0 (Below w.heap.size w wr)) (fun v _ => 8 - (intOf v).toNat)
  case atStart => exact ⟨0, by omega, rfl, ⟨fun j hj => by omega⟩, HN, HO, HB⟩
  case round =>
    clear HN HO HB
    obtain ⟨i, hi, rfl, HU, HN, HO, HB⟩ := hrel
    by_cases hlt : i < 8
    · have hk := arr_at ss H8.out i hlt
      by_cases hu : U (rd ss (i : Int))
      · obtain ⟨u0, u1⟩ := hu
        have m32 : rd ss (i : Int) % 4294967296 = rd ss (i : Int) := by omega
        have HUi := Aside0.mk (show U (rd ss (i : Int)) from ⟨u0, u1⟩)
        have hput := Aside0.mk (inV_put ss H8.out i hlt)
        generalize hx : rd ss (i : Int) = x at *
        have HX := Aside0.mk hx
        clear hx
        have u2 : ¬ x < 0 := by omega
        have u3 : ¬ 4294967295 < x := by omega
        have d0 := HN.out.cell i (by omega)
        have f0 := HN.out.free i
        go_wp2_with fail
        go_roundw
        case rel =>
          have hne : g1 ≠ g2 := by have := G1.out; have := G2.out; omega
          have hle : w.heap.size ≤ g2 := by have := G2.out; omega
          refine ⟨i + 1, by omega, by go_num, ⟨fun j hj => ?_⟩, ⟨by rw [← hput.out]; exact HN.out.put i _⟩, ⟨HO.out.other hne _⟩, ⟨HB.out.setCell hle _⟩⟩
          by_cases hji : j = i
          · subst hji
            rw [HX.out]
            exact HUi.out
          · exact HU.out j (by omega)
        case measure => simp [intOf]; omega
      · have hok : okW ss = false := okW_false i (by rw [H8.out]; exact hlt) hu
        have hv : smixV ss l1 = [0, 0, 0, 0, 0, 0, 0, 0] := by rw [smixV, if_neg (fun h => by rw [hok] at h; exact absurd h.1 (by decide))]
        have he : smixE ss l1 = 1 := by rw [smixE, if_neg (fun h => by rw [hok] at h; exact absurd h.1 (by decide))]
        have HU2 : Aside0 (¬ U (rd ss (i : Int))) := ⟨hu⟩
        clear hok hu
        generalize rd ss (i : Int) = x at *
        by_cases u0 : x < 0
        · go_wp2_with ((with_reducible refine gate_store (t := 55) (p := 4) (v := .tmp 23) rfl ?_); refine wpList_store_row rfl 55 (.tmp 4) (.tmp 23) rfl g1 (nums .i64 [0, 0, 0, 0, 0, 0, 0, 0]).toArray rfl (by rfl) 55 _ HO.out.blk (by rw [nums_size]; exact info55) rfl (nums_one _ _) ?_)
          have HO2 := Aside0.mk (HO.out.row [0, 0, 0, 0, 0, 0, 0, 0] rfl)
          have HB2 := Aside0.mk (below_setRow HB.out (by have := G1.out; omega : w.heap.size ≤ g1) (nums .i64 [0, 0, 0, 0, 0, 0, 0, 0]).toArray)
          generalize wr.setRow g1 (nums .i64 [0, 0, 0, 0, 0, 0, 0, 0]).toArray = w9 at HO2 HB2 ⊢
          go_wp2_with fail
          refine bodyPost_ret (results_two (by rfl) _ _ g1 55 (nums .i64 [0, 0, 0, 0, 0, 0, 0, 0]).toArray (0, 0) _ (by rfl) (HO2.out.blk) Try.underlying55 (by rfl) (by rw [nums_size]; exact info55)) rfl ?_
          first
          | exact ⟨rfl, HB2.out⟩
          | (rw [hv, he]; exact ⟨rfl, HB2.out⟩)
        · have u1 : 4294967295 < x := by
            have := HU2.out
            unfold U at this
            omega
          go_wp2_with ((with_reducible refine gate_store (t := 55) (p := 4) (v := .tmp 23) rfl ?_); refine wpList_store_row rfl 55 (.tmp 4) (.tmp 23) rfl g1 (nums .i64 [0, 0, 0, 0, 0, 0, 0, 0]).toArray rfl (by rfl) 55 _ HO.out.blk (by rw [nums_size]; exact info55) rfl (nums_one _ _) ?_)
          have HO2 := Aside0.mk (HO.out.row [0, 0, 0, 0, 0, 0, 0, 0] rfl)
          have HB2 := Aside0.mk (below_setRow HB.out (by have := G1.out; omega : w.heap.size ≤ g1) (nums .i64 [0, 0, 0, 0, 0, 0, 0, 0]).toArray)
          generalize wr.setRow g1 (nums .i64 [0, 0, 0, 0, 0, 0, 0, 0]).toArray = w9 at HO2 HB2 ⊢
          go_wp2_with fail
          refine bodyPost_ret (results_two (by rfl) _ _ g1 55 (nums .i64 [0, 0, 0, 0, 0, 0, 0, 0]).toArray (0, 0) _ (by rfl) (HO2.out.blk) Try.underlying55 (by rfl) (by rw [nums_size]; exact info55)) rfl ?_
          first
          | exact ⟨rfl, HB2.out⟩
          | (rw [hv, he]; exact ⟨rfl, HB2.out⟩)
    · obtain rfl : i = 8 := by omega
      clear hi hlt
      by_cases h64 : l1.length = 64
      · obtain ⟨ab, ao, rfl⟩ := HA.out h64
        have hok : okW ss = true := okW_ofU (fun x hx => by
          obtain ⟨j, hj, rfl⟩ := List.getElem_of_mem hx
          have := HU.out j (by rw [H8.out] at hj; exact hj)
          rw [rd, Int.toNat_natCast, List.getD_eq_getElem?_getD, List.getElem?_eq_getElem hj] at this
          exact this)
        have hv : smixV ss l1 = mixS ss l1 := by rw [smixV, if_pos ⟨hok, h64⟩]
        have he : smixE ss l1 = 0 := by rw [smixE, if_pos ⟨hok, h64⟩]
        have HV := Aside0.mk hv
        have HE := Aside0.mk he
        clear hv he hok
        have h64i : (l1.length : Int) = 64 := by omega
        have hC : Kd.C (Kd.int .u8) wr (some ⟨ab, ao, none⟩) 64 l1 := by
          have := Kd.C_below HR.out HB.out
          rw [h64] at this
          exact this
        have hin : inV ss 8 = ss := by
          obtain ⟨a, b, c, d, e, f, g, k, hh⟩ := eight ss H8.out
          rw [hh]
          rfl
        have hmix := mix_calls g2 ab ao c 73 (nums .u32 (inV ss 8)).toArray ss l1 (by rw [← h64]; exact HC.out) wr hC HN.out.blk (fun j hj => by
          rw [hin, rd, Int.toNat_natCast]
          have := H8.out
          simp [nums, List.getElem?_eq_getElem (show j < ss.length by omega), List.getD_eq_getElem?_getD])
        rw [h64]
        go_wp2_with fail
        refine hmix.mono ?_
        rintro e w1 ⟨rfl, hg, hb⟩
        have hne : g1 ≠ g2 := by have := G1.out; have := G2.out; omega
        have HM := Aside0.mk (show Arr w1 g2 73 8 (mixS ss l1) from ⟨mixS_length _ _, by rw [hb, putTo_all _ _ (by rw [nums_size]; exact HN.out.len) (mixS_length _ _)]⟩)
        have HO1 : Aside0 (Arr8 w1 g1 [0, 0, 0, 0, 0, 0, 0, 0]) := ⟨rfl, by
          rw [hg.block g1 HO.out.lt (fun h => hne (Option.some.inj h))]
          exact HO.out.blk⟩
        have HB1 := Aside0.mk (HB.out.grown hg HB.out.size (by intro k hk; cases hk; have := G2.out; omega))
        have LM := Aside0.mk (mixS_length ss l1)
        have UM := Aside0.mk (U_mixS ss l1)
        clear hg hb hmix hC HN HO HB hin
        generalize mixS ss l1 = M at *
        go_upto_region 13 with fail
        have HM2 := Aside0.mk (HM.out.old (.cells (nums .i64 (inV M 0)).toArray 55))
        have HO2 := Aside0.mk (HO1.out.below ((Below.refl w1.heap.size w1).alloc (Nat.le_refl _) (.cells (nums .i64 (inV M 0)).toArray 55)))
        have HB2 := Aside0.mk (HB1.out.alloc HB1.out.size (.cells (nums .i64 (inV M 0)).toArray 55))
        have HQ2 : Aside0 (Arr8 (w1.alloc (.cells (nums .i64 (inV M 0)).toArray 55)) w1.heap.size (inV M 0)) := ⟨inV_length M 0 (by omega) LM.out, heap_alloc_new w1 _⟩
        have hg1 : Aside0 (g1 < w1.heap.size) := ⟨HO1.out.lt⟩
        have hg3 : Aside0 (w.heap.size ≤ w1.heap.size) := ⟨HB1.out.size⟩
        clear HM HO1 HB1
        change Code.wp _ _ _ _ (w1.alloc (.cells (nums .i64 (inV M 0)).toArray 55))
        generalize w1.alloc (.cells (nums .i64 (inV M 0)).toArray 55) = w2 at HM2 HO2 HB2 HQ2 ⊢
        generalize w1.heap.size = g3 at HQ2 hg1 hg3 ⊢
        have s0 := HM2.out.cell 0 (by omega)
        have s1 := HM2.out.cell 1 (by omega)
        have s2 := HM2.out.cell 2 (by omega)
        have s3 := HM2.out.cell 3 (by omega)
        have s4 := HM2.out.cell 4 (by omega)
        have s5 := HM2.out.cell 5 (by omega)
        have s6 := HM2.out.cell 6 (by omega)
        have s7 := HM2.out.cell 7 (by omega)
        rw [show ((0 : Nat) : Int) = 0 from rfl] at s0
        rw [show ((1 : Nat) : Int) = 1 from rfl] at s1
        rw [show ((2 : Nat) : Int) = 2 from rfl] at s2
        rw [show ((3 : Nat) : Int) = 3 from rfl] at s3
        rw [show ((4 : Nat) : Int) = 4 from rfl] at s4
        rw [show ((5 : Nat) : Int) = 5 from rfl] at s5
        rw [show ((6 : Nat) : Int) = 6 from rfl] at s6
        rw [show ((7 : Nat) : Int) = 7 from rfl] at s7
        have hst := st8 M LM.out
        go_wp2_with fail
        clear s0 s1 s2 s3 s4 s5 s6 s7 hst HM2
        go_loopw [36] (fun v wr => ∃ i : Nat, i ≤ 8 ∧ v = .int .i64 i ∧ Aside0 (Arr8 wr g3 (inV M i)) ∧ Aside0 (Arr8 wr g1 [0, 0, 0, 0, 0, 0, 0, 0]) ∧ Aside0 (Below w.heap.size w wr)) (fun v _ => 8 - (intOf v).toNat)
        case atStart => exact ⟨0, by omega, rfl, HQ2, HO2, HB2⟩
        case round =>
          clear HQ2 HO2 HB2
          obtain ⟨i, hi, rfl, HQ, HO, HB⟩ := hrel
          by_cases hlt : i < 8
          · have hk := state_at M LM.out i hlt
            have m64 : wrap64 (rd M (i : Int)) = rd M (i : Int) := by
              obtain ⟨h1, h2⟩ := U_rd UM.out (i : Int)
              exact w64n (by omega) (by omega)
            have d0 := HQ.out.cell i (by omega)
            have f0 := HQ.out.free i
            go_wp2_with fail
            go_roundw
            case rel =>
              have hne2 : g1 ≠ g3 := by have := hg1.out; omega
              have hle : w.heap.size ≤ g3 := hg3.out
              exact ⟨i + 1, by omega, by go_num, ⟨by rw [← inV_put M LM.out i hlt]; exact HQ.out.put i _⟩, ⟨HO.out.other hne2 _⟩, ⟨HB.out.setCell hle _⟩⟩
            case measure => simp [intOf]; omega
          · obtain rfl : i = 8 := by omega
            clear hi hlt
            rw [inV_full M LM.out] at HQ
            have s0 := HQ.out.cell 0 (by omega)
            have s1 := HQ.out.cell 1 (by omega)
            have s2 := HQ.out.cell 2 (by omega)
            have s3 := HQ.out.cell 3 (by omega)
            have s4 := HQ.out.cell 4 (by omega)
            have s5 := HQ.out.cell 5 (by omega)
            have s6 := HQ.out.cell 6 (by omega)
            have s7 := HQ.out.cell 7 (by omega)
            rw [show ((0 : Nat) : Int) = 0 from rfl] at s0
            rw [show ((1 : Nat) : Int) = 1 from rfl] at s1
            rw [show ((2 : Nat) : Int) = 2 from rfl] at s2
            rw [show ((3 : Nat) : Int) = 3 from rfl] at s3
            rw [show ((4 : Nat) : Int) = 4 from rfl] at s4
            rw [show ((5 : Nat) : Int) = 5 from rfl] at s5
            rw [show ((6 : Nat) : Int) = 6 from rfl] at s6
            rw [show ((7 : Nat) : Int) = 7 from rfl] at s7
            have hst := st8i M LM.out
            go_wp2_with ((with_reducible refine gate_store (t := 55) (p := 4) (v := .tmp 45) rfl ?_); refine wpList_store_row rfl 55 (.tmp 4) (.tmp 45) rfl g1 (nums .i64 M).toArray rfl (by rfl) 55 _ HO.out.blk (by rw [nums_size, LM.out]; exact info55) (by rw [nums_size, nums_size, LM.out]; rfl) (nums_one _ _) ?_)
            have HO2 := Aside0.mk (HO.out.row M LM.out)
            have HB2 := Aside0.mk (below_setRow HB.out (by have := G1.out; omega : w.heap.size ≤ g1) (nums .i64 M).toArray)
            generalize wr.setRow g1 (nums .i64 M).toArray = w9 at HO2 HB2 ⊢
            go_wp2_with fail
            refine bodyPost_ret (results_two (by rfl) _ _ g1 55 (nums .i64 M).toArray (0, 0) _ (by rfl) (HO2.out.blk) Try.underlying55 (by rfl) (by rw [nums_size, LM.out]; exact info55)) rfl ?_
            first
            | exact ⟨rfl, HB2.out⟩
            | (rw [HV.out, HE.out]; exact ⟨rfl, HB2.out⟩)
      · have hv : smixV ss l1 = [0, 0, 0, 0, 0, 0, 0, 0] := by rw [smixV, if_neg (fun h => h64 h.2)]
        have he : smixE ss l1 = 1 := by rw [smixE, if_neg (fun h => h64 h.2)]
        have h64i : ¬ (l1.length : Int) = 64 := by omega
        go_wp2_with ((with_reducible refine gate_store (t := 55) (p := 4) (v := .tmp 32) rfl ?_); refine wpList_store_row rfl 55 (.tmp 4) (.tmp 32) rfl g1 (nums .i64 [0, 0, 0, 0, 0, 0, 0, 0]).toArray rfl (by rfl) 55 _ HO.out.blk (by rw [nums_size]; exact info55) rfl (nums_one _ _) ?_)
        have HO2 := Aside0.mk (HO.out.row [0, 0, 0, 0, 0, 0, 0, 0] rfl)
        have HB2 := Aside0.mk (below_setRow HB.out (by have := G1.out; omega : w.heap.size ≤ g1) (nums .i64 [0, 0, 0, 0, 0, 0, 0, 0]).toArray)
        generalize wr.setRow g1 (nums .i64 [0, 0, 0, 0, 0, 0, 0, 0]).toArray = w9 at HO2 HB2 ⊢
        go_wp2_with fail
        refine bodyPost_ret (results_two (by rfl) _ _ g1 55 (nums .i64 [0, 0, 0, 0, 0, 0, 0, 0]).toArray (0, 0) _ (by rfl) (HO2.out.blk) Try.underlying55 (by rfl) (by rw [nums_size]; exact info55)) rfl ?_
        first
        | exact ⟨rfl, HB2.out⟩
        | (rw [hv, he]; exact ⟨rfl, HB2.out⟩)
end Go.Proofs.Ytffcegbcjkhnoaa.PC
