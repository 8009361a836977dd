/- The walk of the law Sha256Mixes: it returns true for every state and every row of bytes. -/
import Derived.Test.YtffcegbcjkhnoaaGAw3
import Derived.Test.YtffcegbcjkhnoaaGSMix
import Derived.Test.YtffcegbcjkhnoaaMWire
namespace Go.Proofs.Ytffcegbcjkhnoaa.PC
open Go.RowKit Go.Proofs.YtffcegbcjkhnoaaW.PrintWords Go.Proofs.YtffcegbcjkhnoaaW.PrintLast Go.Proofs.YtffcegbcjkhnoaaW.PrintMore
set_option linter.unusedVariables false
set_option linter.unusedSimpArgs false
theorem C_arr8 {w : World} {g : Nat} {xs : List Int} (h : Arr8 w g xs) : Kd.C (Kd.int .i64) w (some ⟨g, 0, none⟩) xs.length xs := by
  refine Kd.C_of_reads (d := 0) (h1 := fun _ => rfl) ⟨rfl, by rw [h.len]; decide, fun _ => ⟨_, rfl, fun j hj => ?_⟩⟩
  have ha : (⟨g, 0, none⟩ : Addr).add j = ⟨g, j, none⟩ := by unfold Addr.add; split <;> simp_all
  rw [h.len] at hj
  rw [ha, h.cell j hj, rd, Int.toNat_natCast]
theorem is_l0 (l : List Int) (hl : l.length ≤ 1000) (m : Nat) : ∀ (i fuel : Nat), i + m = l.length → m + 1 ≤ fuel → chandleryref03_Is.l0 fuel l i = some (okW (l.drop i)) := by
  induction m with
  | zero =>
    intro i fuel hi hf
    obtain ⟨f, rfl⟩ : ∃ f, fuel = f + 1 := ⟨fuel - 1, by omega⟩
    rw [chandleryref03_Is.l0, if_neg (by omega), List.drop_of_length_le (by omega)]
    rfl
  | succ m ih =>
    intro i fuel hi hf
    obtain ⟨f, rfl⟩ : ∃ f, fuel = f + 1 := ⟨fuel - 1, by omega⟩
    have hil : i < l.length := by omega
    have hx : rd l (i : Int) = l[i] := by rw [rd, Int.toNat_natCast, List.getD_eq_getElem?_getD, List.getElem?_eq_getElem hil]; rfl
    rw [chandleryref03_Is.l0, if_pos (by omega), if_pos (by omega), hx, List.drop_eq_getElem_cons hil, w64n (by omega) (by omega)]
    have hok : okW (l[i] :: l.drop (i + 1)) = (decide (0 ≤ l[i] ∧ l[i] < 4294967296) && okW (l.drop (i + 1))) := rfl
    rw [hok]
    by_cases h1 : l[i] < 0
    · rw [if_pos h1, decide_eq_false (by omega)]
      rfl
    · by_cases h2 : l[i] ≥ 4294967296
      · rw [if_neg h1, if_pos h2, decide_eq_false (by omega)]
        rfl
      · rw [if_neg h1, if_neg h2, decide_eq_true (by omega), Bool.true_and]
        exact ih (i + 1) f (by omega) (by omega)
theorem okB_ofU {l : List Int} (h : ∀ x ∈ l, U8 x) : okB l = true := List.all_eq_true.2 fun x hx => decide_eq_true (h x hx)
theorem is_f (l : List Int) (h8 : l.length = 8) : chandleryref03_Is.f 20 l = some (okW l) :=
  is_l0 l (by omega) 8 0 20 (by omega) (by omega)
theorem ints_l0 (l : List Int) (hl : l.length ≤ 1000) (m : Nat) : ∀ (i fuel : Nat), i + m = l.length → m + 1 ≤ fuel → chandleryref01_Ints.l0 fuel l l i = some true := by
  induction m with
  | zero =>
    intro i fuel hi hf
    obtain ⟨f, rfl⟩ : ∃ f, fuel = f + 1 := ⟨fuel - 1, by omega⟩
    rw [chandleryref01_Ints.l0, if_neg (by omega)]
  | succ m ih =>
    intro i fuel hi hf
    obtain ⟨f, rfl⟩ : ∃ f, fuel = f + 1 := ⟨fuel - 1, by omega⟩
    rw [chandleryref01_Ints.l0, if_pos (by omega), if_pos (by omega), if_pos (by omega), if_pos rfl, w64n (by omega) (by omega)]
    exact ih (i + 1) f (by omega) (by omega)
theorem ints_f (l : List Int) (h8 : l.length = 8) : chandleryref01_Ints.f 20 l l = some true := by
  rw [chandleryref01_Ints.f, if_pos rfl]
  exact ints_l0 l (by omega) 8 0 20 (by omega) (by omega)
theorem start_f100 : chandleryref03_Start.f 100 = some startL := by decide +kernel
theorem smixV_length (ss l1 : List Int) : (smixV ss l1).length = 8 := by
  unfold smixV
  split
  · exact mixS_length _ _
  · rfl
set_option maxRecDepth 100000 in
theorem eq_zero : ∀ w : World, (Op.equalIn 10000 55 (.agg #[.int .i64 0, .int .i64 0, .int .i64 0, .int .i64 0, .int .i64 0, .int .i64 0, .int .i64 0, .int .i64 0]) (.agg #[.int .i64 0, .int .i64 0, .int .i64 0, .int .i64 0, .int .i64 0, .int .i64 0, .int .i64 0, .int .i64 0])).run Try.prog w = .ok true w := fun _ => by kernel_rfl
set_option maxRecDepth 100000 in
set_option maxHeartbeats 2000000 in
theorem chandlerylaw03_Sha256Mixes.calls (ss : List Int) (h8 : ss.length = 8) (A1 : Option Addr) (c1 : Nat) (l1 : List Int) (w : World) (hr1 : Kd.C (Kd.int .u8) w A1 l1.length l1) (hc1 : l1.length ≤ c1) (hb : ∀ x ∈ l1, U8 x) :
    Calls Try.prog 14 #[.agg (nums .i64 ss).toArray, .slice A1 l1.length c1] w fun e w' => e = .returned (.bool true) ∧ Below w.heap.size w w' := by
  have HR1 := Aside0.mk hr1
  have HC1 := Aside0.mk hc1
  have HU8 := Aside0.mk hb
  have H8 := Aside0.mk h8
  clear hr1 hc1 hb h8
  by_cases hbig : 300 < l1.length
  · have hbi : (300 : Int) < (l1.length : Int) := by omega
    go_enter Try.func14, Try.ntmps14
    go_wp2_with fail
    go_ret
    exact ⟨rfl, (Below.refl _ _).alloc (Nat.le_refl _) _⟩
  · have hbi : ¬ (300 : Int) < (l1.length : Int) := by omega
    go_enter Try.func14, Try.ntmps14
    go_upto_region 3 with fail
    have HS := Aside0.mk (show Arr8 (w.alloc (.cells (nums .i64 ss).toArray 55)) w.heap.size ss from ⟨H8.out, heap_alloc_new w _⟩)
    have HB := Aside0.mk ((Below.refl w.heap.size w).alloc (Nat.le_refl _) (.cells (nums .i64 ss).toArray 55))
    generalize w.alloc (.cells (nums .i64 ss).toArray 55) = w1 at HS HB ⊢
    obtain ⟨g2, hg2⟩ : ∃ g, g = w.heap.size := ⟨_, rfl⟩
    rw [← hg2] at HS
    rw [show Value.pointer (some ⟨w.heap.size, 0, none⟩) = Value.pointer (some ⟨g2, 0, none⟩) by rw [hg2]]
    clear hg2
    have HR2 := Aside0.mk (Kd.C_below HR1.out HB.out)
    clear HR1
    have HD := Aside0.mk (Below.refl w1.heap.size w1)
    go_upto_region 4 with (first | ((with_reducible refine gate_dst (N := 12) rfl ?_); refine Kd.R_lit (Kd.int .u8) _ 5 ?hg (N := 12) ?hd (xs := ([] : List Int)) (inner := []) (ok := fun _ => True) (okp := fun _ => True) ?hr ?hp (fun _ hk => hk) trivial (Below.refl _ _) (Nat.le_refl _) (by simp) ?_; (case hd => rfl); (case hg => rfl); (case hr => first | (go_simp; done) | (go_simp; rfl)); (case hp => exact (Reps.none _ _)); intro v12 w2 ho hb2 hgg hnew; have HO2 := Aside0.mk ho; have HD2 := Aside0.mk hb2; clear hgg hnew HD ho hb2) | ((with_reducible refine gate_builtin (b := .append) (xs := #[.tmp 12, .tmp 13]) rfl ?_); at_builtin; refine Kd.R_append_rows (Kd.int .u8) (w0 := w1) w1.heap.size rfl (.tmp 12) (.tmp 13) 22 5 (.int .u8 0) 1 rfl Try.underlying22 info5 rfl (by decide) (by omega) v12 ([] : List Int) l1 _ _ _ (fun _ => True) (fun _ => False) rfl rfl ?aO ?aR (fun _ _ h => h) (fun _ h => h.elim) ?aF ?aB ?aS ?aL ?_; (case aR => exact Kd.C_below HR2.out HD2.out); (case aB => exact HD2.out); (case aF => exact (fun _ _ => trivial)); (case aO => exact HO2.out); (case aS => exact HD2.out.size); (case aL => simp only [List.length_nil]; omega); intro v14 w3 ho hb3 hg3 hat; rw [List.nil_append] at ho; have HO3 := Aside0.mk ho; have HD3 := Aside0.mk hb3; clear HO2 HD2 ho hb3 hg3 hat; obtain ⟨Ao, co, eo⟩ := Kd.R_slice HO3.out; subst eo))
    have HRo := Aside0.mk (Kd.R_reads' HO3.out).2
    have hAo := R_addr HO3.out
    have HBW := Aside0.mk (below_then HB.out HB.out.size HD3.out)
    have HS3 := Aside0.mk (HS.out.below HD3.out)
    have HR3 := Aside0.mk (Kd.C_below HR2.out HD3.out)
    clear HS HB HD3 HR2
    have hcall := smix_calls ss H8.out Ao co l1 w3 HRo.out.2 HRo.out.1 (fun h64 => by
      obtain ⟨ad, e, _⟩ := Kd.at_int HRo.out.2 0 (by omega) (by omega)
      obtain ⟨hsp, _⟩ := hAo ad e
      obtain ⟨ga, oa, sp⟩ := ad
      obtain rfl : sp = none := hsp
      exact ⟨ga, oa, e⟩)
    have LV := Aside0.mk (smixV_length ss l1)
    have hst := st8i ss H8.out
    have s0 := HS3.out.cell 0 (by omega)
    have s1 := HS3.out.cell 1 (by omega)
    have s2 := HS3.out.cell 2 (by omega)
    have s3 := HS3.out.cell 3 (by omega)
    have s4 := HS3.out.cell 4 (by omega)
    have s5 := HS3.out.cell 5 (by omega)
    have s6 := HS3.out.cell 6 (by omega)
    have s7 := HS3.out.cell 7 (by omega)
    rw [show ((0 : Nat) : Int) = 0 from rfl] at s0
    rw [show ((1 : Nat) : Int) = 1 from rfl] at s1
    rw [show ((2 : Nat) : Int) = 2 from rfl] at s2
    rw [show ((3 : Nat) : Int) = 3 from rfl] at s3
    rw [show ((4 : Nat) : Int) = 4 from rfl] at s4
    rw [show ((5 : Nat) : Int) = 5 from rfl] at s5
    rw [show ((6 : Nat) : Int) = 6 from rfl] at s6
    rw [show ((7 : Nat) : Int) = 7 from rfl] at s7
    go_wp2_with fail
    refine hcall.mono ?_
    rintro e w4 ⟨rfl, hb4⟩
    clear s0 s1 s2 s3 s4 s5 s6 s7 hst hcall hAo
    have HS4 := Aside0.mk (HS3.out.below hb4)
    have HO4 := Aside0.mk (Kd.R_below HO3.out hb4)
    have HR4 := Aside0.mk (Kd.C_below HR3.out hb4)
    have HB4 := Aside0.mk (below_then HBW.out HBW.out.size hb4)
    clear HS3 HO3 HR3 HBW HRo hb4
    obtain ⟨V, hV⟩ : ∃ V, V = smixV ss l1 := ⟨_, rfl⟩
    obtain ⟨E, hE⟩ : ∃ E, E = smixE ss l1 := ⟨_, rfl⟩
    rw [← hV, ← hE]
    rw [← hV] at LV
    have HV := Aside0.mk hV
    have HE := Aside0.mk hE
    clear hV hE
    go_upto_region 5 with ((with_reducible refine gate_store (t := 55) (p := 6) (v := .tmp 19) rfl ?_); refine wpList_store_row rfl 55 (.tmp 6) (.tmp 19) rfl w4.heap.size (nums .i64 V).toArray rfl (by rfl) 55 _ (heap_alloc_new w4 _) (by rw [nums_size, LV.out]; exact info55) (by rw [nums_size, LV.out]; rfl) (nums_one _ _) ?_)
    have hb5 : Below w4.heap.size w4 ((w4.alloc (.cells (nums .i64 [0, 0, 0, 0, 0, 0, 0, 0]).toArray 55)).setRow w4.heap.size (nums .i64 V).toArray) := below_setRow ((Below.refl w4.heap.size w4).alloc (Nat.le_refl _) _) (Nat.le_refl _) _
    have HV5 := Aside0.mk (show Arr8 ((w4.alloc (.cells (nums .i64 [0, 0, 0, 0, 0, 0, 0, 0]).toArray 55)).setRow w4.heap.size (nums .i64 V).toArray) w4.heap.size V from Arr8.row (xs := [0, 0, 0, 0, 0, 0, 0, 0]) ⟨rfl, heap_alloc_new w4 _⟩ V LV.out)
    change Code.wp _ _ _ _ ((w4.alloc (.cells (nums .i64 [0, 0, 0, 0, 0, 0, 0, 0]).toArray 55)).setRow w4.heap.size (nums .i64 V).toArray)
    generalize (w4.alloc (.cells (nums .i64 [0, 0, 0, 0, 0, 0, 0, 0]).toArray 55)).setRow w4.heap.size (nums .i64 V).toArray = w5 at hb5 HV5 ⊢
    have HS5 := Aside0.mk (HS4.out.below hb5)
    have HO5 := Aside0.mk (Kd.R_below HO4.out hb5)
    have HR5 := Aside0.mk (Kd.C_below HR4.out hb5)
    have HB5 := Aside0.mk (below_then HB4.out HB4.out.size hb5)
    clear HS4 HO4 HR4 HB4 hb5
    generalize w4.heap.size = g6 at *
    go_wp2_with fail
    refine (start_calls w5).mono ?_
    rintro e w6 ⟨rfl, hb6⟩
    have HS6 := Aside0.mk (HS5.out.below hb6)
    have HV6 := Aside0.mk (HV5.out.below hb6)
    have HO6 := Aside0.mk (Kd.R_below HO5.out hb6)
    have HR6 := Aside0.mk (Kd.C_below HR5.out hb6)
    have HB6 := Aside0.mk (below_then HB5.out HB5.out.size hb6)
    clear HS5 HO5 HR5 HB5 hb6 HV5
    go_upto_region 6 with ((with_reducible refine gate_store (t := 55) (p := 8) (v := .tmp 21) rfl ?_); refine wpList_store_row rfl 55 (.tmp 8) (.tmp 21) rfl w6.heap.size startV rfl rfl 55 _ (heap_alloc_new w6 _) (by rw [show startV.size = 8 from rfl]; exact info55) rfl (nums_one _ _) ?_)
    have hb7 : Below w6.heap.size w6 ((w6.alloc (.cells (nums .i64 [0, 0, 0, 0, 0, 0, 0, 0]).toArray 55)).setRow w6.heap.size startV) := below_setRow ((Below.refl w6.heap.size w6).alloc (Nat.le_refl _) _) (Nat.le_refl _) _
    have HT7 := Aside0.mk (show Arr8 ((w6.alloc (.cells (nums .i64 [0, 0, 0, 0, 0, 0, 0, 0]).toArray 55)).setRow w6.heap.size startV) w6.heap.size startL from Arr8.row (xs := [0, 0, 0, 0, 0, 0, 0, 0]) ⟨rfl, heap_alloc_new w6 _⟩ startL rfl)
    change Code.wp _ _ _ _ ((w6.alloc (.cells (nums .i64 [0, 0, 0, 0, 0, 0, 0, 0]).toArray 55)).setRow w6.heap.size startV)
    generalize (w6.alloc (.cells (nums .i64 [0, 0, 0, 0, 0, 0, 0, 0]).toArray 55)).setRow w6.heap.size startV = w7 at hb7 HT7 ⊢
    have HS7 := Aside0.mk (HS6.out.below hb7)
    have HV7 := Aside0.mk (HV6.out.below hb7)
    have HO7 := Aside0.mk (Kd.R_below HO6.out hb7)
    have HR7 := Aside0.mk (Kd.C_below HR6.out hb7)
    have HB7 := Aside0.mk (below_then HB6.out HB6.out.size hb7)
    clear HS6 HO6 HR6 HB6 hb7 HV6
    generalize w6.heap.size = g8 at *
    have hq0 := cvAt_own (Kd.R_drew HO7.out)
    have hq1 := cvAt_read c1 (Kd.C_drew HR7.out)
    refine start_ (n := 11) (S := CvAnd (CvAt (.slice Ao l1.length co) l1) (CvAt (.slice A1 l1.length c1) l1)) (ds := [7, 8]) #[false, false, false, false, false, false, false, false, false, false, false] (by kernel_rfl) rfl rfl ⟨hq0, hq1⟩ (fun hHeld => ?_)
    have HS8 := Aside0.mk HS7.out.drew
    have HV8 := Aside0.mk HV7.out.drew
    have HT8 := Aside0.mk HT7.out.drew
    have HR8 := Aside0.mk (Kd.C_drew HR7.out)
    have HB8 := Aside0.mk (below_drew1 HB7.out)
    clear HS7 HV7 HT7 HR7 HB7 HO7 hq0 hq1
    generalize w7.drew = w8 at HS8 HV8 HT8 HR8 HB8 hHeld ⊢
    refine pure_ (i := 0) (N := some 22) (v := ?_) (a' := ?_) #[true, false, false, false, false, false, false, false, false, false, false] rfl rfl (by kernel_rfl) (fun _ _ _ h => h) (Or.inl ⟨by rfl, ?_⟩) ?_ ?_
    rotate_left
    · intro w'
      go_simp
      with_reducible rfl
    rotate_left
    · simp only [Act.put, List.setIfInBounds_toArray, List.set_cons_zero, List.set_cons_succ, i64_w, i32_w]
      rfl
    refine take_ (i := 1) (N := some 23) (v := ?_) (a' := ?_) #[true, true, false, false, false, false, false, false, false, false, false] rfl rfl (by kernel_rfl) (fun _ _ _ h => h) (Or.inl ⟨by rfl, ?_⟩) hHeld ?_ ?_
    rotate_left
    · rintro w' ⟨s0, s1⟩
      have t0 := s0.out
      have t1 := s1.out
      go_simp
      with_reducible rfl
    rotate_left
    · simp only [Act.put, List.setIfInBounds_toArray, List.set_cons_zero, List.set_cons_succ, i64_w, i32_w]
      rfl
    refine pure_ (i := 2) (N := some 24) (v := ?_) (a' := ?_) #[true, true, true, false, false, false, false, false, false, false, false] rfl rfl (by kernel_rfl) (fun _ _ _ h => h) (Or.inl ⟨by rfl, ?_⟩) ?_ ?_
    rotate_left
    · intro w'
      go_simp
      with_reducible rfl
    rotate_left
    · simp only [Act.put, List.setIfInBounds_toArray, List.set_cons_zero, List.set_cons_succ, i64_w, i32_w]
      rfl
    refine take_ (i := 3) (N := some 25) (v := ?_) (a' := ?_) #[true, true, true, true, false, false, false, false, false, false, false] rfl rfl (by kernel_rfl) (fun _ _ _ h => h) (Or.inl ⟨by rfl, ?_⟩) hHeld ?_ ?_
    rotate_left
    · rintro w' ⟨s0, s1⟩
      have t0 := s0.out
      have t1 := s1.out
      go_simp
      with_reducible rfl
    rotate_left
    · simp only [Act.put, List.setIfInBounds_toArray, List.set_cons_zero, List.set_cons_succ, i64_w, i32_w]
      rfl
    refine pure_ (i := 4) (N := some 26) (v := ?_) (a' := ?_) #[true, true, true, true, true, false, false, false, false, false, false] rfl rfl (by kernel_rfl) (fun _ _ _ h => h) (Or.inl ⟨by rfl, ?_⟩) ?_ ?_
    rotate_left
    · intro w'
      go_simp
      with_reducible rfl
    rotate_left
    · simp only [Act.put, List.setIfInBounds_toArray, List.set_cons_zero, List.set_cons_succ, i64_w, i32_w]
      rfl
    refine pure_ (i := 5) (N := some 27) (v := ?_) (a' := ?_) #[true, true, true, true, true, true, false, false, false, false, false] rfl rfl (by kernel_rfl) (fun _ _ _ h => h) (Or.inl ⟨by rfl, ?_⟩) ?_ ?_
    rotate_left
    · intro w'
      go_simp
      with_reducible rfl
    rotate_left
    · simp only [Act.put, List.setIfInBounds_toArray, List.set_cons_zero, List.set_cons_succ, i64_w, i32_w]
      rfl
    refine pure_ (i := 6) (N := some 28) (v := ?_) (a' := ?_) #[true, true, true, true, true, true, true, false, false, false, false] rfl rfl (by kernel_rfl) (fun _ _ _ h => h) (Or.inl ⟨by rfl, ?_⟩) ?_ ?_
    rotate_left
    · intro w'
      go_simp
      with_reducible rfl
    rotate_left
    · simp only [Act.put, List.setIfInBounds_toArray, List.set_cons_zero, List.set_cons_succ, i64_w, i32_w]
      rfl
    refine last_ (i := 7) (N := some 29) #[true, true, true, true, true, true, true, true, false, false, false] rfl rfl (by kernel_rfl) (by decide) (fun K hK => ?_)
    refine goes_ Try.func46 (by kernel_rfl) rfl #[] (by rfl) rfl rfl (by first | rfl | (go_simp; done) | (simp [Act.eval]; done)) ?_
    refine (chandleryref03_Start.calls 100 startL w8 start_f100).mono ?_
    rintro e w9 ⟨v9, rfl, hr9, hb9⟩
    obtain ⟨A9, c9, rfl⟩ := Kd.R_slice hr9
    have HR9 := Aside0.mk (Kd.R_reads' hr9).2
    have HS9 := Aside0.mk (HS8.out.below hb9)
    have HV9 := Aside0.mk (HV8.out.below hb9)
    have HT9 := Aside0.mk (HT8.out.below hb9)
    have HP9 := Aside0.mk (Kd.C_below HR8.out hb9)
    have HB9 := Aside0.mk (below_then HB8.out HB8.out.size hb9)
    clear HS8 HV8 HT8 HR8 HB8 hb9 hr9 hHeld
    refine ⟨_, rfl, hK.out _ _ ?_⟩
    clear hK K
    refine norm_ (a' := ?_) ?_ ?_
    rotate_left
    · show Act.put _ (some 29) _ = _
      simp only [Act.put, List.setIfInBounds_toArray, List.set_cons_zero, List.set_cons_succ, i64_w, i32_w]
      rfl
    refine last_ (i := 8) (N := some 30) #[true, true, true, true, true, true, true, true, true, false, false] rfl rfl (by kernel_rfl) (by decide) (fun K hK => ?_)
    refine goes_ Try.func45 (by kernel_rfl) rfl #[.slice (some ⟨g8, 0, none⟩) 8 8, .slice A9 startL.length c9] (by rfl) rfl rfl (by first | rfl | (go_simp; done) | (simp [Act.eval]; done)) ?_
    refine (chandleryref01_Ints.calls 20 (some ⟨g8, 0, none⟩) 8 startL A9 c9 startL true w9 (C_arr8 HT9.out) (by decide) HR9.out.2 HR9.out.1 (ints_f startL rfl)).mono ?_
    rintro e w10 ⟨rfl, m10, rfl⟩
    have HSa := Aside0.mk (HS9.out.drewN m10)
    have HVa := Aside0.mk (HV9.out.drewN m10)
    have HPa := Aside0.mk (Kd.C_drewN HP9.out m10)
    have HBa := Aside0.mk (pw_below_drewN HB9.out m10)
    clear HS9 HV9 HT9 HP9 HB9 HR9
    refine ⟨_, rfl, hK.out _ _ ?_⟩
    generalize w9.drewN m10 = wa at HSa HVa HPa HBa ⊢
    clear hK K
    refine norm_ (a' := ?_) ?_ ?_
    rotate_left
    · show Act.put _ (some 30) _ = _
      simp only [Act.put, List.setIfInBounds_toArray, List.set_cons_zero, List.set_cons_succ, i64_w, i32_w]
      rfl
    refine pure_ (i := 9) (N := some 31) (v := ?_) (a' := ?_) #[true, true, true, true, true, true, true, true, true, true, false] rfl rfl (by kernel_rfl) (fun _ _ _ h => h) (Or.inl ⟨by rfl, ?_⟩) ?_ ?_
    rotate_left
    · intro w'
      go_simp
      with_reducible rfl
    rotate_left
    · simp only [Act.put, List.setIfInBounds_toArray, List.set_cons_zero, List.set_cons_succ, i64_w, i32_w]
      rfl
    refine pure_ (i := 10) (N := some 32) (v := ?_) (a' := ?_) #[true, true, true, true, true, true, true, true, true, true, true] rfl rfl (by kernel_rfl) (fun _ _ _ h => h) (Or.inl ⟨by rfl, ?_⟩) ?_ ?_
    rotate_left
    · intro w'
      go_simp
      with_reducible rfl
    rotate_left
    · simp only [Act.put, List.setIfInBounds_toArray, List.set_cons_zero, List.set_cons_succ, i64_w, i32_w]
      rfl
    refine done_ (by kernel_rfl) ?_
    by_cases h64 : l1.length = 64
    · have h64i : (l1.length : Int) = 64 := by omega
      go_wp2_with fail
      have hx := chandleryref03_Is.calls 20 (some ⟨g2, 0, none⟩) 8 ss (okW ss) wa (C_arr8 HSa.out) (by rw [H8.out]; exact Nat.le_refl _) (is_f ss H8.out)
      rw [H8.out] at hx
      refine hx.mono ?_
      clear hx
      rintro e wb ⟨rfl, mb, rfl⟩
      have HSb := Aside0.mk (HSa.out.drewN mb)
      have HVb := Aside0.mk (HVa.out.drewN mb)
      have HPb := Aside0.mk (Kd.C_drewN HPa.out mb)
      have HBb := Aside0.mk (pw_below_drewN HBa.out mb)
      clear HSa HVa HPa HBa
      generalize wa.drewN mb = wa at HSb HVb HPb HBb ⊢
      have HSa := HSb
      have HVa := HVb
      have HPa := HPb
      have HBa := HBb
      clear HSb HVb HPb HBb
      cases hok : okW ss
      · have hV : V = [0, 0, 0, 0, 0, 0, 0, 0] := by rw [HV.out, smixV, if_neg (fun h => by rw [hok] at h; exact absurd h.1 (by decide))]
        have hE : E = 1 := by rw [HE.out, smixE, if_neg (fun h => by rw [hok] at h; exact absurd h.1 (by decide))]
        subst hV hE
        clear hok
        go_wp2_with fail
        refine (chandlerylaw03_awake.calls true wa rfl).mono ?_
        rintro e wb ⟨rfl, hbb⟩
        have HVb := Aside0.mk (HVa.out.below hbb)
        have HBb := Aside0.mk (below_then HBa.out HBa.out.size hbb)
        clear HVa HSa HPa HBa hbb
        have s0 := HVb.out.cell 0 (by omega)
        have s1 := HVb.out.cell 1 (by omega)
        have s2 := HVb.out.cell 2 (by omega)
        have s3 := HVb.out.cell 3 (by omega)
        have s4 := HVb.out.cell 4 (by omega)
        have s5 := HVb.out.cell 5 (by omega)
        have s6 := HVb.out.cell 6 (by omega)
        have s7 := HVb.out.cell 7 (by omega)
        rw [show (rd [0, 0, 0, 0, 0, 0, 0, 0] ((0 : Nat) : Int)) = 0 from rfl] at s0
        rw [show (rd [0, 0, 0, 0, 0, 0, 0, 0] ((1 : Nat) : Int)) = 0 from rfl] at s1
        rw [show (rd [0, 0, 0, 0, 0, 0, 0, 0] ((2 : Nat) : Int)) = 0 from rfl] at s2
        rw [show (rd [0, 0, 0, 0, 0, 0, 0, 0] ((3 : Nat) : Int)) = 0 from rfl] at s3
        rw [show (rd [0, 0, 0, 0, 0, 0, 0, 0] ((4 : Nat) : Int)) = 0 from rfl] at s4
        rw [show (rd [0, 0, 0, 0, 0, 0, 0, 0] ((5 : Nat) : Int)) = 0 from rfl] at s5
        rw [show (rd [0, 0, 0, 0, 0, 0, 0, 0] ((6 : Nat) : Int)) = 0 from rfl] at s6
        rw [show (rd [0, 0, 0, 0, 0, 0, 0, 0] ((7 : Nat) : Int)) = 0 from rfl] at s7
        have heq := eq_zero
        go_wp2_with fail
        go_ret
        exact ⟨rfl, HBb.out⟩
      · have hV : V = mixS ss l1 := by rw [HV.out, smixV, if_pos ⟨hok, h64⟩]
        have hE : E = 0 := by rw [HE.out, smixE, if_pos ⟨hok, h64⟩]
        subst hE
        have HVM := Aside0.mk hV
        have hmf : chandleryref03_Mix.f ss l1 = some V := by rw [chandleryref03_Mix.f, if_pos ⟨H8.out, h64, hok, okB_ofU HU8.out⟩, hV]
        have HMF := Aside0.mk hmf
        clear hok hV hmf HV HE
        go_upto_region 10 with fail
        refine start_ (n := 13) (S := fun _ => True) (ds := [0, 9, 10]) #[false, false, false, false, false, false, false, false, false, false, false, false, false] (by kernel_rfl) rfl rfl trivial (fun hHeld => ?_)
        have HSb := Aside0.mk HSa.out.drew
        have HVb := Aside0.mk HVa.out.drew
        have HPb := Aside0.mk (Kd.C_drew HPa.out)
        have HBb := Aside0.mk (below_drew1 HBa.out)
        clear HSa HVa HPa HBa hHeld
        generalize wa.drew = wb at HSb HVb HPb HBb ⊢
        refine last_ (i := 0) (N := some 51) #[true, false, false, false, false, false, false, false, false, false, false, false, false] rfl rfl (by kernel_rfl) (by decide) (fun K hK => ?_)
        refine goes_ Try.func37 (by kernel_rfl) rfl #[] (by rfl) rfl rfl (by first | rfl | (go_simp; done) | (simp [Act.eval]; done)) ?_
        refine (chandlerylaw03_awake.calls true wb rfl).mono ?_
        rintro e wc ⟨rfl, hbc⟩
        have HSc := Aside0.mk (HSb.out.below hbc)
        have HVc := Aside0.mk (HVb.out.below hbc)
        have HPc := Aside0.mk (Kd.C_below HPb.out hbc)
        have HBc := Aside0.mk (below_then HBb.out HBb.out.size hbc)
        clear HSb HVb HPb HBb hbc
        refine ⟨_, rfl, hK.out _ _ ?_⟩
        clear hK K
        refine norm_ (a' := ?_) ?_ ?_
        rotate_left
        · show Act.put _ (some 51) _ = _
          simp only [Act.put, List.setIfInBounds_toArray, List.set_cons_zero, List.set_cons_succ, i64_w, i32_w]
          rfl
        refine pure_ (i := 1) (N := some 52) (v := ?_) (a' := ?_) #[true, true, false, false, false, false, false, false, false, false, false, false, false] rfl rfl (by kernel_rfl) (fun _ _ _ h => h) (Or.inl ⟨by rfl, ?_⟩) ?_ ?_
        rotate_left
        · intro w'
          go_simp
          with_reducible rfl
        rotate_left
        · simp only [Act.put, List.setIfInBounds_toArray, List.set_cons_zero, List.set_cons_succ, i64_w, i32_w]
          rfl
        refine pure_ (i := 2) (N := some 53) (v := ?_) (a' := ?_) #[true, true, true, false, false, false, false, false, false, false, false, false, false] rfl rfl (by kernel_rfl) (fun _ _ _ h => h) (Or.inl ⟨by rfl, ?_⟩) ?_ ?_
        rotate_left
        · intro w'
          go_simp
          with_reducible rfl
        rotate_left
        · simp only [Act.put, List.setIfInBounds_toArray, List.set_cons_zero, List.set_cons_succ, i64_w, i32_w]
          rfl
        refine pure_ (i := 3) (N := some 54) (v := ?_) (a' := ?_) #[true, true, true, true, false, false, false, false, false, false, false, false, false] rfl rfl (by kernel_rfl) (fun _ _ _ h => h) (Or.inl ⟨by rfl, ?_⟩) ?_ ?_
        rotate_left
        · intro w'
          go_simp
          with_reducible rfl
        rotate_left
        · simp only [Act.put, List.setIfInBounds_toArray, List.set_cons_zero, List.set_cons_succ, i64_w, i32_w]
          rfl
        refine pure_ (i := 4) (N := some 55) (v := ?_) (a' := ?_) #[true, true, true, true, true, false, false, false, false, false, false, false, false] rfl rfl (by kernel_rfl) (fun _ _ _ h => h) (Or.inl ⟨by rfl, ?_⟩) ?_ ?_
        rotate_left
        · intro w'
          go_simp
          with_reducible rfl
        rotate_left
        · simp only [Act.put, List.setIfInBounds_toArray, List.set_cons_zero, List.set_cons_succ, i64_w, i32_w]
          rfl
        refine pure_ (i := 5) (N := some 56) (v := ?_) (a' := ?_) #[true, true, true, true, true, true, false, false, false, false, false, false, false] rfl rfl (by kernel_rfl) (fun _ _ _ h => h) (Or.inl ⟨by rfl, ?_⟩) ?_ ?_
        rotate_left
        · intro w'
          go_simp
          with_reducible rfl
        rotate_left
        · simp only [Act.put, List.setIfInBounds_toArray, List.set_cons_zero, List.set_cons_succ, i64_w, i32_w]
          rfl
        refine pure_ (i := 6) (N := some 57) (v := ?_) (a' := ?_) #[true, true, true, true, true, true, true, false, false, false, false, false, false] rfl rfl (by kernel_rfl) (fun _ _ _ h => h) (Or.inl ⟨by rfl, ?_⟩) ?_ ?_
        rotate_left
        · intro w'
          go_simp
          with_reducible rfl
        rotate_left
        · simp only [Act.put, List.setIfInBounds_toArray, List.set_cons_zero, List.set_cons_succ, i64_w, i32_w]
          rfl
        refine pure_ (i := 7) (N := some 58) (v := ?_) (a' := ?_) #[true, true, true, true, true, true, true, true, false, false, false, false, false] rfl rfl (by kernel_rfl) (fun _ _ _ h => h) (Or.inl ⟨by rfl, ?_⟩) ?_ ?_
        rotate_left
        · intro w'
          go_simp
          with_reducible rfl
        rotate_left
        · simp only [Act.put, List.setIfInBounds_toArray, List.set_cons_zero, List.set_cons_succ, i64_w, i32_w]
          rfl
        refine pure_ (i := 8) (N := some 59) (v := ?_) (a' := ?_) #[true, true, true, true, true, true, true, true, true, false, false, false, false] rfl rfl (by kernel_rfl) (fun _ _ _ h => h) (Or.inl ⟨by rfl, ?_⟩) ?_ ?_
        rotate_left
        · intro w'
          go_simp
          with_reducible rfl
        rotate_left
        · simp only [Act.put, List.setIfInBounds_toArray, List.set_cons_zero, List.set_cons_succ, i64_w, i32_w]
          rfl
        refine last_ (i := 9) (N := some 60) #[true, true, true, true, true, true, true, true, true, true, false, false, false] rfl rfl (by kernel_rfl) (by decide) (fun K hK => ?_)
        refine goes_ Try.func48 (by kernel_rfl) rfl #[.slice (some ⟨g2, 0, none⟩) 8 8, .slice A1 l1.length c1] (by rfl) rfl rfl (by first | rfl | (go_simp; done) | (simp [Act.eval]; done)) ?_
        have hx := chandleryref03_Mix.calls (some ⟨g2, 0, none⟩) 8 ss A1 c1 l1 V wc (C_arr8 HSc.out) (by rw [H8.out]; exact Nat.le_refl _) HPc.out HC1.out HMF.out
        rw [H8.out] at hx
        refine hx.mono ?_
        clear hx
        rintro e wd ⟨vd, rfl, hrd, hbd⟩
        obtain ⟨Ad, cd, rfl⟩ := Kd.R_slice hrd
        have HRd := Aside0.mk (Kd.R_reads' hrd).2
        have HVd := Aside0.mk (HVc.out.below hbd)
        have HBd := Aside0.mk (below_then HBc.out HBc.out.size hbd)
        clear HSc HVc HPc HBc hbd hrd
        refine ⟨_, rfl, hK.out _ _ ?_⟩
        clear hK K
        refine norm_ (a' := ?_) ?_ ?_
        rotate_left
        · show Act.put _ (some 60) _ = _
          simp only [Act.put, List.setIfInBounds_toArray, List.set_cons_zero, List.set_cons_succ, i64_w, i32_w]
          rfl
        refine last_ (i := 10) (N := some 61) #[true, true, true, true, true, true, true, true, true, true, true, false, false] rfl rfl (by kernel_rfl) (by decide) (fun K hK => ?_)
        refine goes_ Try.func45 (by kernel_rfl) rfl #[.slice (some ⟨g6, 0, none⟩) 8 8, .slice Ad V.length cd] (by rfl) rfl rfl (by first | rfl | (go_simp; done) | (simp [Act.eval]; done)) ?_
        have hx := chandleryref01_Ints.calls 20 (some ⟨g6, 0, none⟩) 8 V Ad cd V true wd (C_arr8 HVd.out) (by rw [LV.out]; exact Nat.le_refl _) HRd.out.2 HRd.out.1 (ints_f V LV.out)
        rw [LV.out] at hx ⊢
        refine hx.mono ?_
        clear hx
        rintro e we ⟨rfl, me, rfl⟩
        have HBe := Aside0.mk (pw_below_drewN HBd.out me)
        clear HVd HBd HRd
        refine ⟨_, rfl, hK.out _ _ ?_⟩
        generalize wd.drewN me = we at HBe ⊢
        clear hK K
        refine norm_ (a' := ?_) ?_ ?_
        rotate_left
        · show Act.put _ (some 61) _ = _
          simp only [Act.put, List.setIfInBounds_toArray, List.set_cons_zero, List.set_cons_succ, i64_w, i32_w]
          rfl
        refine pure_ (i := 11) (N := some 62) (v := ?_) (a' := ?_) #[true, true, true, true, true, true, true, true, true, true, true, true, false] rfl rfl (by kernel_rfl) (fun _ _ _ h => h) (Or.inl ⟨by rfl, ?_⟩) ?_ ?_
        rotate_left
        · intro w'
          go_simp
          with_reducible rfl
        rotate_left
        · simp only [Act.put, List.setIfInBounds_toArray, List.set_cons_zero, List.set_cons_succ, i64_w, i32_w]
          rfl
        refine pure_ (i := 12) (N := some 4) (v := ?_) (a' := ?_) #[true, true, true, true, true, true, true, true, true, true, true, true, true] rfl rfl (by kernel_rfl) (fun _ _ _ h => h) (Or.inl ⟨by rfl, ?_⟩) ?_ ?_
        rotate_left
        · intro w'
          go_simp
          with_reducible rfl
        rotate_left
        · simp only [Act.put, List.setIfInBounds_toArray, List.set_cons_zero, List.set_cons_succ, i64_w, i32_w]
          rfl
        refine done_ (by kernel_rfl) ?_
        go_wp2_with fail
        go_ret
        exact ⟨rfl, HBe.out⟩
    · have h64i : ¬ (l1.length : Int) = 64 := by omega
      have hV : V = [0, 0, 0, 0, 0, 0, 0, 0] := by rw [HV.out, smixV, if_neg (fun h => h64 h.2)]
      have hE : E = 1 := by rw [HE.out, smixE, if_neg (fun h => h64 h.2)]
      subst hV hE
      go_wp2_with fail
      refine (chandlerylaw03_awake.calls true wa rfl).mono ?_
      rintro e wb ⟨rfl, hbb⟩
      have HVb := Aside0.mk (HVa.out.below hbb)
      have HBb := Aside0.mk (below_then HBa.out HBa.out.size hbb)
      clear HVa HSa HPa HBa hbb
      have s0 := HVb.out.cell 0 (by omega)
      have s1 := HVb.out.cell 1 (by omega)
      have s2 := HVb.out.cell 2 (by omega)
      have s3 := HVb.out.cell 3 (by omega)
      have s4 := HVb.out.cell 4 (by omega)
      have s5 := HVb.out.cell 5 (by omega)
      have s6 := HVb.out.cell 6 (by omega)
      have s7 := HVb.out.cell 7 (by omega)
      rw [show (rd [0, 0, 0, 0, 0, 0, 0, 0] ((0 : Nat) : Int)) = 0 from rfl] at s0
      rw [show (rd [0, 0, 0, 0, 0, 0, 0, 0] ((1 : Nat) : Int)) = 0 from rfl] at s1
      rw [show (rd [0, 0, 0, 0, 0, 0, 0, 0] ((2 : Nat) : Int)) = 0 from rfl] at s2
      rw [show (rd [0, 0, 0, 0, 0, 0, 0, 0] ((3 : Nat) : Int)) = 0 from rfl] at s3
      rw [show (rd [0, 0, 0, 0, 0, 0, 0, 0] ((4 : Nat) : Int)) = 0 from rfl] at s4
      rw [show (rd [0, 0, 0, 0, 0, 0, 0, 0] ((5 : Nat) : Int)) = 0 from rfl] at s5
      rw [show (rd [0, 0, 0, 0, 0, 0, 0, 0] ((6 : Nat) : Int)) = 0 from rfl] at s6
      rw [show (rd [0, 0, 0, 0, 0, 0, 0, 0] ((7 : Nat) : Int)) = 0 from rfl] at s7
      have heq := eq_zero
      go_wp2_with fail
      go_ret
      exact ⟨rfl, HBb.out⟩
theorem chandlerylaw03_Sha256Mixes.walk (ss : List Int) (h8 : ss.length = 8) (a0 : Option Addr) (len0 cap0 : Nat) (z0 : List Int) (w : World) (w0 : (a0 = none ∧ len0 = 0 ∧ cap0 = 0 ∧ z0 = []) ∨ ∃ x, a0 = some x ∧ len0 ≤ cap0 ∧ cap0 ≤ maxLen ∧ z0.length = cap0 ∧ (∀ i, i < z0.length → w.cell? (x.add i) = some (.int .u8 (z0.getD i 0))) ∧ ∀ n ∈ z0, (Lit.int .u8 n).wf = true) :
    Calls Try.prog 14 #[.agg (nums .i64 ss).toArray, .slice a0 len0 cap0] w fun e w' => e = .returned (.bool true) ∧ Below w.heap.size w w' := by
  obtain ⟨l0, rfl, hr0, hm0, hw0, hc0⟩ := ReadsInt.ofRowC w0
  exact chandlerylaw03_Sha256Mixes.calls ss h8 _ _ l0 w (Kd.C_of_reads (d := (0 : Int)) (h1 := fun _ => rfl) hr0) hc0 (fun x hx => by
    have h := wfb (hw0 x hx)
    exact ⟨by omega, by omega⟩)
/-- Eight numbers that came in as an array by value. -/
theorem arr8_of_row {W : World} {base : Nat} {cs : Array Value} (hsz : cs.size = 8) (h : Row.okWide Try.prog W .any base 55 cs) : ∃ ss : List Int, ss.length = 8 ∧ cs = (nums .i64 ss).toArray := by
  obtain ⟨ts, hts, _, hc⟩ := h
  have h2 : Try.prog.cellTypes Try.prog.depth 55 = some [3, 3, 3, 3, 3, 3, 3, 3] := by kernel_rfl
  rw [h2] at hts
  obtain rfl := Option.some.inj hts
  have hv : ∀ i (hi : i < cs.size), ∃ n, cs[i] = .int .i64 n := fun i hi => by
    obtain ⟨u, hu, ho⟩ := hc i cs[i] (Array.getElem?_eq_getElem hi)
    have hu3 : u = 3 := by
      have hm : u ∈ [3, 3, 3, 3, 3, 3, 3, 3] := List.mem_of_getElem? hu
      simpa using hm
    subst hu3
    refine Go.WideShapes.okWide_int (P := Try.prog) (t := 3) Try.underlying3 (r := .any) (base := base) (w := W) ?_
    simpa [Value.okWide, Try.underlying3] using ho
  refine ⟨cs.toList.map intOf, by simp [hsz], ?_⟩
  apply Array.ext
  · simp [nums]
  · intro i h1 h2
    obtain ⟨n, hn⟩ := hv i h1
    simp [nums, hn, intOf]
end Go.Proofs.Ytffcegbcjkhnoaa.PC
