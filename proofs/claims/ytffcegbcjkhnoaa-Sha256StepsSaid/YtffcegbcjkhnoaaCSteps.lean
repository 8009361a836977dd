/- The walk of the law Sha256Steps: it returns true for every row of bytes. -/
import Derived.Test.YtffcegbcjkhnoaaGAw3
import Derived.Test.YtffcegbcjkhnoaaGSMix
import Derived.Test.YtffcegbcjkhnoaaGPad
import Derived.Test.YtffcegbcjkhnoaaCRef
namespace Go.Proofs.Ytffcegbcjkhnoaa.PC
open Go.RowKit Go.Proofs.YtffcegbcjkhnoaaW.PrintWords Go.Proofs.YtffcegbcjkhnoaaW.PrintLast Go.Proofs.YtffcegbcjkhnoaaW.PrintMore
set_option linter.unusedVariables false
set_option linter.unusedSimpArgs false
def allL (l : List Int) : List Int := l ++ padS l.length
theorem padS_lenL (n : Nat) : (padS n).length = 72 - (n + 8) % 64 := by
  simp [padS]
  omega
theorem allL_len (l : List Int) : ∃ N, (allL l).length = 64 * N ∧ 64 * N ≤ l.length + 72 := by
  have h := padS_lenL l.length
  refine ⟨(l.length + (72 - (l.length + 8) % 64)) / 64, ?_, ?_⟩
  · rw [allL, List.length_append, h]
    omega
  · omega
theorem blk_leftL (l m : List Int) (k : Nat) (h : 64 * k + 64 ≤ l.length) : blk (l ++ m) k = blk l k := by
  unfold blk
  rw [List.drop_append_of_le_length (by omega), List.take_append_of_le_length (by rw [List.length_drop]; omega)]
theorem takeK_leftL (st l m : List Int) : ∀ k, 64 * k ≤ l.length → takeK st (l ++ m) k = takeK st l k
  | 0, _ => rfl
  | k + 1, h => by rw [takeK, takeK, takeK_leftL st l m k (by omega), blk_leftL l m k (by omega)]
theorem takeK_shiftL (st l : List Int) (q : Nat) : ∀ m, takeK st l (q + m) = takeK (takeK st l q) (l.drop (64 * q)) m
  | 0 => rfl
  | m + 1 => by
    rw [← Nat.add_assoc, takeK, takeK, takeK_shiftL st l q m]
    congr 1
    unfold blk
    rw [List.drop_drop, show 64 * q + 64 * m = 64 * (q + m) by omega]
theorem sha_allL (l : List Int) (N : Nat) (h : (allL l).length = 64 * N) : shaS l = outB (takeK startL (allL l) N) 8 := by
  unfold shaS stateS
  have hq : 64 * (l.length / 64) ≤ l.length := by omega
  have hd : (allL l).drop (64 * (l.length / 64)) = endS l := by
    unfold allL endS
    rw [List.drop_append_of_le_length hq]
  have hl : (endS l).length + 64 * (l.length / 64) = 64 * N := by
    rw [← hd, List.length_drop, h]
    have : (allL l).length = l.length + (padS l.length).length := by rw [allL, List.length_append]
    omega
  rw [show N = l.length / 64 + (endS l).length / 64 by omega, takeK_shiftL, hd]
  congr 2
  unfold allL
  rw [takeK_leftL _ _ _ _ hq]
theorem U_startL : ∀ x ∈ startL, U x := by
  have : ∀ x ∈ startL, 0 ≤ x ∧ x < 4294967296 := by decide
  exact this
theorem U_takeKL {st : List Int} (h : ∀ x ∈ st, U x) (l : List Int) : ∀ k, ∀ x ∈ takeK st l k, U x
  | 0 => h
  | k + 1 => U_mixS _ _
theorem outB_at (ST : List Int) (h8 : ST.length = 8) (hu : ∀ x ∈ ST, U x) (j : Nat) (hj : j < 8) : ∃ b0 b1 b2 b3 : Int,
    rd (outB ST 8) (4 * (j : Int)) = b0 ∧ rd (outB ST 8) (4 * (j : Int) + 1) = b1 ∧ rd (outB ST 8) (4 * (j : Int) + 2) = b2 ∧ rd (outB ST 8) (4 * (j : Int) + 3) = b3 ∧
    (0 ≤ b0 ∧ b0 < 256) ∧ (0 ≤ b1 ∧ b1 < 256) ∧ (0 ≤ b2 ∧ b2 < 256) ∧ (0 ≤ b3 ∧ b3 < 256) ∧ 16777216 * b0 + 65536 * b1 + 256 * b2 + b3 = rd ST (j : Int) := by
  have hU := U_rd hu (j : Int)
  refine ⟨rd ST (j : Int) / 16777216 % 256, rd ST (j : Int) / 65536 % 256, rd ST (j : Int) / 256 % 256, rd ST (j : Int) % 256, ?_, ?_, ?_, ?_, ?_, ?_, ?_, ?_, ?_⟩
  · obtain ⟨a, b, c, d, e, f, g, k, rfl⟩ := eight ST h8
    match j, hj with
    | 0, _ => rfl
    | 1, _ => rfl
    | 2, _ => rfl
    | 3, _ => rfl
    | 4, _ => rfl
    | 5, _ => rfl
    | 6, _ => rfl
    | 7, _ => rfl
  · obtain ⟨a, b, c, d, e, f, g, k, rfl⟩ := eight ST h8
    match j, hj with
    | 0, _ => rfl
    | 1, _ => rfl
    | 2, _ => rfl
    | 3, _ => rfl
    | 4, _ => rfl
    | 5, _ => rfl
    | 6, _ => rfl
    | 7, _ => rfl
  · obtain ⟨a, b, c, d, e, f, g, k, rfl⟩ := eight ST h8
    match j, hj with
    | 0, _ => rfl
    | 1, _ => rfl
    | 2, _ => rfl
    | 3, _ => rfl
    | 4, _ => rfl
    | 5, _ => rfl
    | 6, _ => rfl
    | 7, _ => rfl
  · obtain ⟨a, b, c, d, e, f, g, k, rfl⟩ := eight ST h8
    match j, hj with
    | 0, _ => rfl
    | 1, _ => rfl
    | 2, _ => rfl
    | 3, _ => rfl
    | 4, _ => rfl
    | 5, _ => rfl
    | 6, _ => rfl
    | 7, _ => rfl
  all_goals
    obtain ⟨h1, h2⟩ := hU
    omega
theorem smix_ok (st l : List Int) (h : ∀ x ∈ st, U x) (hl : l.length = 64) : smixV st l = mixS st l ∧ smixE st l = 0 := by
  have hc : okW st = true ∧ l.length = 64 := ⟨okW_ofU h, hl⟩
  exact ⟨by rw [smixV, if_pos hc], by rw [smixE, if_pos hc]⟩
set_option maxRecDepth 100000 in
set_option maxHeartbeats 2000000 in
theorem chandlerylaw03_Sha256Steps.calls (A0 : Option Addr) (c0 : Nat) (l0 : List Int) (w : World) (hr0 : Kd.C (Kd.int .u8) w A0 l0.length l0) (hc0 : l0.length ≤ c0) :
    Calls Try.prog 15 #[.slice A0 l0.length c0] w fun e w' => e = .returned (.bool true) ∧ Below w.heap.size w w' := by
  have HR0 := Aside0.mk hr0
  have HC0 := Aside0.mk hc0
  clear hr0 hc0
  by_cases hbig : 2000 < l0.length
  · have hb : (2000 : Int) < (l0.length : Int) := by omega
    go_enter Try.func15, Try.ntmps15
    go_wp2_with fail
    go_ret
    exact ⟨rfl, Below.refl _ _⟩
  · have hb : ¬ (2000 : Int) < (l0.length : Int) := by omega
    obtain ⟨N, hN, hN2⟩ := allL_len l0
    go_enter Try.func15, Try.ntmps15
    go_wp2_with fail
    refine (sha256_Pad.calls (l0.length : Int) (padS l0.length) 0 w (by rw [sha256_Pad.f, if_neg (by omega)])).mono ?_
    rintro e w1 ⟨v1, rfl, hr1, hb1⟩
    obtain ⟨A1, c1, rfl⟩ := Kd.R_slice hr1
    have HR1 := Aside0.mk (Kd.R_reads' hr1).2
    have HB1 := Aside0.mk hb1
    clear hr1 hb1
    go_wp2_with fail
    have hp := padS_lenL l0.length
    refine (chandleryref01_Both.calls A0 c0 l0 A1 c1 (padS l0.length) (allL l0) w1 (Kd.C_below HR0.out HB1.out) HC0.out HR1.out.2 HR1.out.1 (by rw [chandleryref01_Both.f, if_pos (by simp only [List.length_nil]; omega), Option.bind_some, List.nil_append, if_pos (by omega)]; rfl)).mono ?_
    clear hp
    rintro e w2 ⟨v2, rfl, hr2, hb2⟩
    have HB2 := Aside0.mk (below_then HB1.out HB1.out.size hb2)
    obtain ⟨A2, c2, rfl⟩ := Kd.R_slice hr2
    have hA2 := R_addr hr2
    have hR2 := (Kd.R_reads' hr2).2
    have hN0 : 0 < N := by
      have : (allL l0).length = l0.length + (padS l0.length).length := by rw [allL, List.length_append]
      have := padS_lenL l0.length
      omega
    obtain ⟨ad, rfl, _⟩ := Kd.at_int hR2.2 0 (by omega) (by omega)
    obtain ⟨hsp, hbs⟩ := hA2 ad rfl
    obtain ⟨ga, oa, sp⟩ := ad
    obtain rfl : sp = none := hsp
    have HR2 := Aside0.mk hR2
    have HSH := Aside0.mk (sha_allL l0 N hN)
    clear hR2 hr2 hb2 hA2 hbs HB1 HR1
    generalize allL l0 = al at *
    have e64 : Int.tmod ((al.length : Nat) : Int) 64 = 0 := by rw [Int.tmod_eq_emod_of_nonneg (by omega)]; omega
    have LAL := Aside0.mk hN
    go_wp2_with fail
    refine (start_calls w2).mono ?_
    rintro e w3 ⟨rfl, hb3⟩
    have HB3 := Aside0.mk (below_then HB2.out HB2.out.size hb3)
    have HR3 := Aside0.mk (show Kd.C (Kd.int .u8) w3 (some ⟨ga, oa, none⟩) al.length al from Kd.C_below HR2.out.2 hb3)
    have HC2 := Aside0.mk HR2.out.1
    clear hb3 HB2 HR2
    go_wp2_with ((with_reducible refine gate_store (t := 55) (p := 6) (v := .tmp 33) rfl ?_); refine wpList_store_row rfl 55 (.tmp 6) (.tmp 33) rfl w3.heap.size startV rfl rfl 55 _ (heap_alloc_new w3 _) (by rw [show startV.size = 8 from rfl]; exact info55) rfl (nums_one _ _) ?_)
    obtain ⟨g6, hg6⟩ : ∃ g, g = w3.heap.size := ⟨_, rfl⟩
    have HS : Aside0 (Arr8 ((w3.alloc (.cells (nums .i64 [0, 0, 0, 0, 0, 0, 0, 0]).toArray 55)).setRow w3.heap.size startV) g6 (takeK startL al 0)) := ⟨by
      rw [hg6]
      exact Arr8.row (xs := [0, 0, 0, 0, 0, 0, 0, 0]) ⟨rfl, heap_alloc_new w3 _⟩ startL rfl⟩
    have HD := Aside0.mk (below_setRow ((Below.refl w3.heap.size w3).alloc (Nat.le_refl _) (.cells (nums .i64 [0, 0, 0, 0, 0, 0, 0, 0]).toArray 55)) (Nat.le_refl w3.heap.size) startV)
    change Code.wp _ _ _ _ ((w3.alloc (.cells (nums .i64 [0, 0, 0, 0, 0, 0, 0, 0]).toArray 55)).setRow w3.heap.size startV)
    generalize (w3.alloc (.cells (nums .i64 [0, 0, 0, 0, 0, 0, 0, 0]).toArray 55)).setRow w3.heap.size startV = w0 at HS HD ⊢
    rw [show Value.pointer (some ⟨w3.heap.size, 0, none⟩) = Value.pointer (some ⟨g6, 0, none⟩) by rw [hg6]]
    have HG6 := Aside0.mk hg6
    clear hg6 e64
    go_loopw [7] (fun v wr => ∃ k i : Nat, k ≤ N ∧ v = .int .i64 (i : Int) ∧ Aside0 (i = 64 * k) ∧ Aside0 (Arr8 wr g6 (takeK startL al k)) ∧ Aside0 (Below w3.heap.size w3 wr)) (fun v _ => 64 * N - (intOf v).toNat)
    case atStart => exact ⟨0, 0, by omega, rfl, ⟨rfl⟩, HS, HD⟩
    case round =>
      clear HS HD
      obtain ⟨k, i, hk, rfl, HI, HS, HD⟩ := hrel
      by_cases hlt : k < N
      · have hiN : i + 64 ≤ al.length := by rw [LAL.out, HI.out]; omega
        have hil : (i : Int) < (al.length : Int) := by omega
        have hcl := HC2.out
        have e1 : wrap64 ((i : Int) + 64) = (i : Int) + 64 := w64n (by omega) (by omega)
        obtain ⟨i0, hi0, _, hsz, _⟩ := info_parts info5
        have hcut := cut_mid (P := Try.prog) 22 5 .i64 .i64 Try.underlying22 hi0 1 hsz (some ⟨ga, oa, none⟩) al.length c2 (i : Int) ((i : Int) + 64) (by omega) (by omega) (by omega) hcl
        have hadd : (⟨ga, oa, none⟩ : Addr).add i = ⟨ga, oa + i, none⟩ := by unfold Addr.add; split <;> simp_all
        rw [show ((i : Int) + 64).toNat - (i : Int).toNat = 64 by omega, Int.toNat_natCast, if_neg (show ¬ c2 = i by omega), Option.map_some, Nat.mul_one, hadd] at hcut
        have hblk : blk al k = (al.take (i + 64)).drop i := by
          rw [blk, List.drop_take, ← HI.out, show i + 64 - i = 64 by omega]
        have hbl : (blk al k).length = 64 := by rw [hblk, List.length_drop, List.length_take]; omega
        have HRB : Aside0 (Kd.C (Kd.int .u8) w3 (some ⟨ga, oa + i, none⟩) (blk al k).length (blk al k)) := ⟨by
          have h := Kd.C_mid (lo := i) (hi := i + 64) (c := c2) HR3.out (by omega) (by omega) hcl
          rw [if_neg (show ¬ c2 = i by omega), Option.map_some] at h
          rw [hblk]
          have h2 : (⟨ga, oa, none⟩ : Addr).add (i * (Kd.int .u8).sz) = ⟨ga, oa + i, none⟩ := by rw [show (Kd.int .u8).sz = 1 from rfl, Nat.mul_one]; exact hadd
          rw [h2] at h
          exact h⟩
        have HBL := Aside0.mk hbl
        have LS := Aside0.mk (takeK_length startL al rfl k)
        have hsm := smix_ok (takeK startL al k) (blk al k) (U_takeKL U_startL al k) hbl
        have HSM := Aside0.mk (show smixV (takeK startL al k) (blk al k) = takeK startL al (k + 1) from hsm.1)
        have HSE := Aside0.mk hsm.2
        clear hsm hbl hblk hi0 hsz hadd
        generalize takeK startL al k = ST at HS LS HSM HSE
        have p1 : (0 : Int) ≤ (i : Int) + 64 := by omega
        have p2 : (i : Int) + 64 ≤ (c2 : Int) := by omega
        have p3 : ((i : Int) + 64).toNat = i + 64 := by omega
        have p4 : ¬ c2 = i := by omega
        have p5 : i + 64 - i = 64 := by omega
        clear hcut
        go_upto_region 11 with fail
        refine start_ (n := 13) (S := fun w' => Arr8 w' g6 ST) (ds := [11]) #[false, false, false, false, false, false, false, false, false, false, false, false, false] (by kernel_rfl) rfl rfl HS.out.drew (fun hHeld => ?_)
        have HS1 := Aside0.mk HS.out.drew
        have HD1 := Aside0.mk (below_drew1 HD.out)
        clear HS HD
        generalize wr.drew = w4 at HS1 HD1 hHeld ⊢
        refine take_ (i := 0) (N := some 41) (v := ?_) (a' := ?_) #[true, false, false, false, false, false, false, false, false, false, false, false, false] rfl rfl (by kernel_rfl) (fun _ _ _ h => h) (Or.inl ⟨by rfl, ?_⟩) hHeld ?_ ?_
        rotate_left
        · intro w' s
          have s0 := s.cell 0 (by omega)
          have s1 := s.cell 1 (by omega)
          have s2 := s.cell 2 (by omega)
          have s3 := s.cell 3 (by omega)
          have s4 := s.cell 4 (by omega)
          have s5 := s.cell 5 (by omega)
          have s6 := s.cell 6 (by omega)
          have s7 := s.cell 7 (by omega)
          rw [show ((0 : Nat) : Int) = 0 from rfl] at s0
          rw [show ((1 : Nat) : Int) = 1 from rfl] at s1
          rw [show ((2 : Nat) : Int) = 2 from rfl] at s2
          rw [show ((3 : Nat) : Int) = 3 from rfl] at s3
          rw [show ((4 : Nat) : Int) = 4 from rfl] at s4
          rw [show ((5 : Nat) : Int) = 5 from rfl] at s5
          rw [show ((6 : Nat) : Int) = 6 from rfl] at s6
          rw [show ((7 : Nat) : Int) = 7 from rfl] at s7
          have hst := st8i ST LS.out
          go_simp
          with_reducible rfl
        rotate_left
        · simp only [Act.put, List.setIfInBounds_toArray, List.set_cons_zero, List.set_cons_succ, i64_w, i32_w]
          rfl
        refine pure_ (i := 1) (N := some 42) (v := ?_) (a' := ?_) #[true, true, false, false, false, false, false, false, false, false, false, false, false] rfl rfl (by kernel_rfl) (fun _ _ _ h => h) (Or.inl ⟨by rfl, ?_⟩) ?_ ?_
        rotate_left
        · intro w'
          go_simp
          with_reducible rfl
        rotate_left
        · simp only [Act.put, List.setIfInBounds_toArray, List.set_cons_zero, List.set_cons_succ, i64_w, i32_w]
          rfl
        refine pure_ (i := 2) (N := some 43) (v := ?_) (a' := ?_) #[true, true, true, false, false, false, false, false, false, false, false, false, false] rfl rfl (by kernel_rfl) (fun _ _ _ h => h) (Or.inl ⟨by rfl, ?_⟩) ?_ ?_
        rotate_left
        · intro w'
          go_simp
          with_reducible rfl
        rotate_left
        · simp only [Act.put, List.setIfInBounds_toArray, List.set_cons_zero, List.set_cons_succ, i64_w, i32_w]
          rfl
        refine pure_ (i := 3) (N := some 44) (v := ?_) (a' := ?_) #[true, true, true, true, false, false, false, false, false, false, false, false, false] rfl rfl (by kernel_rfl) (fun _ _ _ h => h) (Or.inl ⟨by rfl, ?_⟩) ?_ ?_
        rotate_left
        · intro w'
          go_simp
          with_reducible rfl
        rotate_left
        · simp only [Act.put, List.setIfInBounds_toArray, List.set_cons_zero, List.set_cons_succ, i64_w, i32_w]
          rfl
        refine pure_ (i := 4) (N := some 45) (v := ?_) (a' := ?_) #[true, true, true, true, true, false, false, false, false, false, false, false, false] rfl rfl (by kernel_rfl) (fun _ _ _ h => h) (Or.inl ⟨by rfl, ?_⟩) ?_ ?_
        rotate_left
        · intro w'
          go_simp
          with_reducible rfl
        rotate_left
        · simp only [Act.put, List.setIfInBounds_toArray, List.set_cons_zero, List.set_cons_succ, i64_w, i32_w, e1]
          rfl
        refine pure_ (i := 5) (N := some 46) (v := ?_) (a' := ?_) #[true, true, true, true, true, true, false, false, false, false, false, false, false] rfl rfl (by kernel_rfl) (fun _ _ _ h => h) (Or.inl ⟨by rfl, ?_⟩) ?_ ?_
        rotate_left
        · intro w'
          go_simp
          with_reducible rfl
        rotate_left
        · simp only [Act.put, List.setIfInBounds_toArray, List.set_cons_zero, List.set_cons_succ, i64_w, i32_w]
          rfl
        have hcall := fun w' (hb' : Below w4.heap.size w4 w') => smix_calls ST LS.out (some ⟨ga, oa + i, none⟩) (c2 - i) (blk al k) w' (Kd.C_below (Kd.C_below HRB.out HD1.out) hb') (by rw [HBL.out]; omega) (fun _ => ⟨_, _, rfl⟩)
        rw [HBL.out, HSM.out, HSE.out] at hcall
        have HCALL := Aside0.mk hcall
        clear hcall
        have LMT := Aside0.mk (takeK_length startL al rfl (k + 1))
        generalize hmt : takeK startL al (k + 1) = MT at HSM HCALL LMT
        have HMT := Aside0.mk hmt
        clear hmt
        refine join_ (σ := Nat) 2 #[true, true, true, true, true, true, true, true, true, true, true, false, false] (fun gn => [(47, .tuple #[.agg (nums .i64 MT).toArray, .int .i64 0]), (40, .tuple #[.agg (nums .i64 MT).toArray, .int .i64 0]), (48, .agg (nums .i64 MT).toArray), (49, .int .i64 0), (8, .pointer (some ⟨gn, 0, none⟩))]) (fun gn w' => w4.heap.size ≤ gn ∧ Below w4.heap.size w4 w' ∧ Arr8 w' gn [0, 0, 0, 0, 0, 0, 0, 0]) (fun gn w5 hF => ?_) (fun hcont => ?_)
        rotate_left
        · refine two_ (i := 6) (j := 10) (Ni := some 47) (Nj := some 8) #[true, true, true, true, true, true, true, false, false, false, false, false, false] #[true, true, true, true, true, true, false, false, false, false, true, false, false] rfl rfl rfl rfl (by kernel_rfl) (by decide) (by decide) (fun K hK => ?_) (fun K hK => ?_)
          · refine goes_ Try.func43 (by kernel_rfl) rfl #[.agg (nums .i64 ST).toArray, .slice (some ⟨ga, oa + i, none⟩) 64 (c2 - i)] (by rfl) rfl rfl (by first | rfl | (go_simp; done) | (simp [Act.eval, Operand.eval, p5]; done) | (simp [Act.eval, p5]; done)) ?_
            refine (HCALL.out w4 (Below.refl _ _)).mono ?_
            rintro e w5 ⟨rfl, hb5⟩
            refine ⟨_, rfl, hK.out _ _ (HS1.out.below hb5) (fun hHeld => ?_)⟩
            clear hK K
            refine norm_ (a' := ?_) ?_ ?_
            rotate_left
            · show Act.put _ (some 47) _ = _
              simp only [Act.put, List.setIfInBounds_toArray, List.set_cons_zero, List.set_cons_succ, i64_w, i32_w]
              rfl
            refine pure_ (i := 7) (N := some 40) (v := ?_) (a' := ?_) #[true, true, true, true, true, true, true, true, false, false, false, false, false] rfl rfl (by kernel_rfl) (fun _ _ _ h => h) (Or.inl ⟨by rfl, ?_⟩) ?_ ?_
            rotate_left
            · intro w'
              go_simp
              with_reducible rfl
            rotate_left
            · simp only [Act.put, List.setIfInBounds_toArray, List.set_cons_zero, List.set_cons_succ, i64_w, i32_w]
              rfl
            refine pure_ (i := 8) (N := some 48) (v := ?_) (a' := ?_) #[true, true, true, true, true, true, true, true, true, false, false, false, false] rfl rfl (by kernel_rfl) (fun _ _ _ h => h) (Or.inl ⟨by rfl, ?_⟩) ?_ ?_
            rotate_left
            · intro w'
              go_simp
              with_reducible rfl
            rotate_left
            · simp only [Act.put, List.setIfInBounds_toArray, List.set_cons_zero, List.set_cons_succ, i64_w, i32_w]
              rfl
            refine pure_ (i := 9) (N := some 49) (v := ?_) (a' := ?_) #[true, true, true, true, true, true, true, true, true, true, false, false, false] rfl rfl (by kernel_rfl) (fun _ _ _ h => h) (Or.inl ⟨by rfl, ?_⟩) ?_ ?_
            rotate_left
            · intro w'
              go_simp
              with_reducible rfl
            rotate_left
            · simp only [Act.put, List.setIfInBounds_toArray, List.set_cons_zero, List.set_cons_succ, i64_w, i32_w]
              rfl
            refine one_ (i := 10) (N := some 8) #[true, true, true, true, true, true, true, true, true, true, true, false, false] rfl rfl (by kernel_rfl) (by decide) (fun K hK => ?_)
            refine value_ (w1 := w5.alloc (.cells (nums .i64 [0, 0, 0, 0, 0, 0, 0, 0]).toArray 55)) (v := .pointer (some ⟨w5.heap.size, 0, none⟩)) (by rfl) rfl (by first | (go_simp; done) | (go_simp; rfl)) ?_
            refine hK.out _ _ ((HS1.out.below hb5).below ((Below.refl _ _).alloc (Nat.le_refl _) _)) (fun hHeld => ?_)
            refine norm_ (a' := _) ?_ (hcont w5.heap.size (w5.alloc (.cells (nums .i64 [0, 0, 0, 0, 0, 0, 0, 0]).toArray 55)) ⟨hb5.size, hb5.alloc hb5.size _, rfl, heap_alloc_new w5 _⟩)
            first
            | rfl
            | (simp only [putAll, Act.put, List.setIfInBounds_toArray, List.set_cons_zero, List.set_cons_succ]; rfl)
          · refine value_ (w1 := w4.alloc (.cells (nums .i64 [0, 0, 0, 0, 0, 0, 0, 0]).toArray 55)) (v := .pointer (some ⟨w4.heap.size, 0, none⟩)) (by rfl) rfl (by first | (go_simp; done) | (go_simp; rfl)) ?_
            refine hK.out _ _ (HS1.out.below ((Below.refl _ _).alloc (Nat.le_refl _) _)) (fun hHeld => ?_)
            clear hK K
            refine norm_ (a' := ?_) ?_ ?_
            rotate_left
            · show Act.put _ (some 8) _ = _
              simp only [Act.put, List.setIfInBounds_toArray, List.set_cons_zero, List.set_cons_succ, i64_w, i32_w]
              rfl
            have hb4 : Below w4.heap.size w4 (w4.alloc (.cells (nums .i64 [0, 0, 0, 0, 0, 0, 0, 0]).toArray 55)) := (Below.refl _ _).alloc (Nat.le_refl _) _
            have ha4 : Arr8 (w4.alloc (.cells (nums .i64 [0, 0, 0, 0, 0, 0, 0, 0]).toArray 55)) w4.heap.size [0, 0, 0, 0, 0, 0, 0, 0] := ⟨rfl, heap_alloc_new w4 _⟩
            generalize w4.alloc (.cells (nums .i64 [0, 0, 0, 0, 0, 0, 0, 0]).toArray 55) = w5 at hb4 ha4 hHeld ⊢
            refine one_ (i := 6) (N := some 47) #[true, true, true, true, true, true, true, false, false, false, true, false, false] rfl rfl (by kernel_rfl) (by decide) (fun K hK => ?_)
            refine goes_ Try.func43 (by kernel_rfl) rfl #[.agg (nums .i64 ST).toArray, .slice (some ⟨ga, oa + i, none⟩) 64 (c2 - i)] (by rfl) rfl rfl (by first | rfl | (go_simp; done) | (simp [Act.eval, Operand.eval, p5]; done) | (simp [Act.eval, p5]; done)) ?_
            refine (HCALL.out w5 hb4).mono ?_
            rintro e w6 ⟨rfl, hb6⟩
            refine ⟨_, rfl, hK.out _ _ (hHeld.below hb6) (fun hHeld => ?_)⟩
            clear hK K
            refine norm_ (a' := ?_) ?_ ?_
            rotate_left
            · show Act.put _ (some 47) _ = _
              simp only [Act.put, List.setIfInBounds_toArray, List.set_cons_zero, List.set_cons_succ, i64_w, i32_w]
              rfl
            refine pure_ (i := 7) (N := some 40) (v := ?_) (a' := ?_) #[true, true, true, true, true, true, true, true, false, false, true, false, false] rfl rfl (by kernel_rfl) (fun _ _ _ h => h) (Or.inl ⟨by rfl, ?_⟩) ?_ ?_
            rotate_left
            · intro w'
              go_simp
              with_reducible rfl
            rotate_left
            · simp only [Act.put, List.setIfInBounds_toArray, List.set_cons_zero, List.set_cons_succ, i64_w, i32_w]
              rfl
            refine pure_ (i := 8) (N := some 48) (v := ?_) (a' := ?_) #[true, true, true, true, true, true, true, true, true, false, true, false, false] rfl rfl (by kernel_rfl) (fun _ _ _ h => h) (Or.inl ⟨by rfl, ?_⟩) ?_ ?_
            rotate_left
            · intro w'
              go_simp
              with_reducible rfl
            rotate_left
            · simp only [Act.put, List.setIfInBounds_toArray, List.set_cons_zero, List.set_cons_succ, i64_w, i32_w]
              rfl
            refine pure_ (i := 9) (N := some 49) (v := ?_) (a' := ?_) #[true, true, true, true, true, true, true, true, true, true, true, false, false] rfl rfl (by kernel_rfl) (fun _ _ _ h => h) (Or.inl ⟨by rfl, ?_⟩) ?_ ?_
            rotate_left
            · intro w'
              go_simp
              with_reducible rfl
            rotate_left
            · simp only [Act.put, List.setIfInBounds_toArray, List.set_cons_zero, List.set_cons_succ, i64_w, i32_w]
              rfl
            refine norm_ (a' := _) ?_ (hcont w4.heap.size w6 ⟨Nat.le_refl _, below_then hb4 hb4.size hb6, ha4.below hb6⟩)
            first
            | rfl
            | (simp only [putAll, Act.put, List.setIfInBounds_toArray, List.set_cons_zero, List.set_cons_succ]; rfl)
        obtain ⟨h5n, h5b, h5a⟩ := hF
        clear HCALL
        refine norm_ (a' := ?_) ?_ ?_
        rotate_left
        · show putAll _ _ = _
          simp only [putAll, Act.put, List.setIfInBounds_toArray, List.set_cons_zero, List.set_cons_succ]
          rfl
        refine last_ (i := 11) (N := none) #[true, true, true, true, true, true, true, true, true, true, true, true, false] rfl rfl (by kernel_rfl) (by decide) (fun K hK => ?_)
        rw [if_pos (by rfl)]
        refine wp_store_row 55 (.tmp 8) (.tmp 48) rfl gn (nums .i64 MT).toArray rfl rfl 55 _ h5a.blk (by rw [nums_size, LMT.out]; exact info55) (by rw [nums_size, nums_size, LMT.out]; rfl) (nums_one _ _) (hK.out _ _ ?_)
        clear hK K
        have hne6 : g6 ≠ gn := by have := HS1.out.lt; omega
        have hle3 : w3.heap.size ≤ gn := Nat.le_trans HD1.out.size h5n
        have HQ6 := Aside0.mk (h5a.row MT LMT.out)
        have HS6 := Aside0.mk ((HS1.out.below h5b).otherRow hne6 (nums .i64 MT).toArray)
        have HD6 := Aside0.mk (below_setRow (below_then HD1.out HD1.out.size h5b) hle3 (nums .i64 MT).toArray)
        clear HS1 HD1 hHeld h5n h5b h5a hne6 hle3
        generalize w5.setRow gn (nums .i64 MT).toArray = w6 at HQ6 HS6 HD6 ⊢
        refine norm_ (a' := ?_) ?_ ?_
        rotate_left
        · show Act.put _ none _ = _
          simp only [Act.put]
          rfl
        refine pure_ (i := 12) (N := some 9) (v := ?_) (a' := ?_) #[true, true, true, true, true, true, true, true, true, true, true, true, true] rfl rfl (by kernel_rfl) (fun _ _ _ h => h) (Or.inl ⟨by rfl, ?_⟩) ?_ ?_
        rotate_left
        · intro w'
          go_simp
          with_reducible rfl
        rotate_left
        · simp only [Act.put, List.setIfInBounds_toArray, List.set_cons_zero, List.set_cons_succ, i64_w, i32_w]
          rfl
        refine done_ (by kernel_rfl) ?_
        have s0 := HQ6.out.cell 0 (by omega)
        have s1 := HQ6.out.cell 1 (by omega)
        have s2 := HQ6.out.cell 2 (by omega)
        have s3 := HQ6.out.cell 3 (by omega)
        have s4 := HQ6.out.cell 4 (by omega)
        have s5 := HQ6.out.cell 5 (by omega)
        have s6 := HQ6.out.cell 6 (by omega)
        have s7 := HQ6.out.cell 7 (by omega)
        rw [show ((0 : Nat) : Int) = 0 from rfl] at s0
        rw [show ((1 : Nat) : Int) = 1 from rfl] at s1
        rw [show ((2 : Nat) : Int) = 2 from rfl] at s2
        rw [show ((3 : Nat) : Int) = 3 from rfl] at s3
        rw [show ((4 : Nat) : Int) = 4 from rfl] at s4
        rw [show ((5 : Nat) : Int) = 5 from rfl] at s5
        rw [show ((6 : Nat) : Int) = 6 from rfl] at s6
        rw [show ((7 : Nat) : Int) = 7 from rfl] at s7
        have hst := st8i MT LMT.out
        go_wp2_with ((with_reducible refine gate_store (t := 55) (p := 6) (v := .tmp 52) rfl ?_); refine wpList_store_row rfl 55 (.tmp 6) (.tmp 52) rfl g6 (nums .i64 MT).toArray rfl (by rfl) 55 _ HS6.out.blk (by rw [nums_size, LMT.out]; exact info55) (by rw [nums_size, nums_size, LMT.out, LS.out]) (nums_one _ _) ?_)
        have hle6 : w3.heap.size ≤ g6 := by rw [HG6.out]; exact Nat.le_refl _
        have HS7 := Aside0.mk (HS6.out.row MT LMT.out)
        have HD7 := Aside0.mk (below_setRow HD6.out hle6 (nums .i64 MT).toArray)
        go_roundw
        case rel => exact ⟨k + 1, i + 64, by omega, rfl, ⟨by rw [HI.out]; omega⟩, ⟨by rw [HMT.out]; exact HS7.out⟩, HD7⟩
        case measure => simp [intOf]; have := HI.out; omega
      · obtain rfl : k = N := by omega
        have hil : ¬ (i : Int) < (al.length : Int) := by rw [LAL.out, HI.out]; omega
        have LS := Aside0.mk (takeK_length startL al rfl k)
        have US := Aside0.mk (U_takeKL U_startL al k)
        generalize takeK startL al k = ST at HS LS HSH US
        have HBW := Aside0.mk (below_then HB3.out HB3.out.size HD.out)
        go_wp2_with fail
        refine (sha256_Sum.calls A0 c0 l0 (shaS l0) wr (Kd.C_below HR0.out HBW.out) HC0.out (by rw [sha256_Sum.f, if_pos (by omega)])).mono ?_
        rintro e w5 ⟨v5, rfl, hr5, hb5⟩
        obtain ⟨A5, c5, rfl⟩ := Kd.R_slice hr5
        have hA5 := R_addr hr5
        have hR5 := (Kd.R_reads' hr5).2
        rw [HSH.out] at hR5 ⊢
        have hlen : (outB ST 8).length = 32 := outB_length ST 8 (by rw [LS.out]; exact Nat.le_refl _)
        have HS5 := Aside0.mk (HS.out.below hb5)
        have HB5 := Aside0.mk (below_then HBW.out HBW.out.size hb5)
        obtain ⟨ad, rfl, _⟩ := Kd.at_int hR5.2 0 (by omega) (by rw [hlen]; decide)
        obtain ⟨hsp5, _⟩ := hA5 ad rfl
        obtain ⟨gd, od, sp5⟩ := ad
        obtain rfl : sp5 = none := hsp5
        have HR5 := Aside0.mk hR5
        have HL5 := Aside0.mk hlen
        clear hR5 hr5 hb5 HS HD HBW hA5
        rw [hlen]
        clear hlen
        go_wp2_with fail
        go_loopw [11] (fun v w6 => ∃ j : Nat, j ≤ 8 ∧ v = .int .i64 (j : Int) ∧ Aside0 (Below w5.heap.size w5 w6)) (fun v _ => 8 - (intOf v).toNat)
        case atStart => exact ⟨0, by omega, rfl, ⟨Below.refl _ _⟩⟩
        case round =>
          obtain ⟨j, hj, rfl, HD⟩ := hrel
          by_cases hlt2 : j < 8
          · have hjl : (j : Int) < 8 := by omega
            have hcell : ∀ q : Nat, q < 4 → wr.cell? ⟨gd, od + (4 * j + q), none⟩ = some (.int .u8 (rd (outB ST 8) ((4 * j + q : Nat) : Int))) := fun q hq => by
              obtain ⟨ad2, e, hx⟩ := Kd.at_int HR5.out.2 ((4 * j + q : Nat) : Int) (by omega) (by rw [HL5.out]; omega)
              cases e
              have ha : (⟨gd, od, none⟩ : Addr).add (((4 * j + q : Nat) : Int)).toNat = ⟨gd, od + (4 * j + q), none⟩ := by rw [Int.toNat_natCast]; unfold Addr.add; split <;> simp_all
              rw [ha] at hx
              exact pw_cell_below HD.out hx
            obtain ⟨b0, b1, b2, b3, e0, e1, e2, e3, hb0, hb1, hb2, hb3, hsum⟩ := outB_at ST LS.out US.out j hlt2
            have d0 := hcell 0 (by omega)
            have d1 := hcell 1 (by omega)
            have d2 := hcell 2 (by omega)
            have d3 := hcell 3 (by omega)
            rw [Nat.add_zero, show ((4 * j : Nat) : Int) = 4 * (j : Int) by omega, e0] at d0
            rw [show ((4 * j + 1 : Nat) : Int) = 4 * (j : Int) + 1 by omega, e1] at d1
            rw [show ((4 * j + 2 : Nat) : Int) = 4 * (j : Int) + 2 by omega, e2] at d2
            rw [show ((4 * j + 3 : Nat) : Int) = 4 * (j : Int) + 3 by omega, e3] at d3
            clear e0 e1 e2 e3 hcell
            have x0 : 4 * (j : Int) < 32 := by omega
            have x1 : 4 * (j : Int) + 1 < 32 := by omega
            have x2 : 4 * (j : Int) + 2 < 32 := by omega
            have x3 : 4 * (j : Int) + 3 < 32 := by omega
            have y0 : (0 : Int) ≤ 4 * (j : Int) := by omega
            have y1 : (0 : Int) ≤ 4 * (j : Int) + 1 := by omega
            have y2 : (0 : Int) ≤ 4 * (j : Int) + 2 := by omega
            have y3 : (0 : Int) ≤ 4 * (j : Int) + 3 := by omega
            have t0 : (4 * (j : Int)).toNat = 4 * j := by omega
            have t1 : (4 * (j : Int) + 1).toNat = 4 * j + 1 := by omega
            have t2 : (4 * (j : Int) + 2).toNat = 4 * j + 2 := by omega
            have t3 : (4 * (j : Int) + 3).toNat = 4 * j + 3 := by omega
            have z0 : wrap64 (4 * (j : Int)) = 4 * (j : Int) := w64n (by omega) (by omega)
            have v0 : IntKind.i64.wrap (4 * (j : Int)) = 4 * (j : Int) := by rw [i64_w]; exact z0
            have z1 : wrap64 (4 * (j : Int) + 1) = 4 * (j : Int) + 1 := w64n (by omega) (by omega)
            have v1 : IntKind.i64.wrap (4 * (j : Int) + 1) = 4 * (j : Int) + 1 := by rw [i64_w]; exact z1
            have z2 : wrap64 (4 * (j : Int) + 2) = 4 * (j : Int) + 2 := w64n (by omega) (by omega)
            have v2 : IntKind.i64.wrap (4 * (j : Int) + 2) = 4 * (j : Int) + 2 := by rw [i64_w]; exact z2
            have z3 : wrap64 (4 * (j : Int) + 3) = 4 * (j : Int) + 3 := w64n (by omega) (by omega)
            have v3 : IntKind.i64.wrap (4 * (j : Int) + 3) = 4 * (j : Int) + 3 := by rw [i64_w]; exact z3
            have z4 : wrap64 (b0) = b0 := w64n (by omega) (by omega)
            have v4 : IntKind.i64.wrap (b0) = b0 := by rw [i64_w]; exact z4
            have z5 : wrap64 (b1) = b1 := w64n (by omega) (by omega)
            have v5 : IntKind.i64.wrap (b1) = b1 := by rw [i64_w]; exact z5
            have z6 : wrap64 (b2) = b2 := w64n (by omega) (by omega)
            have v6 : IntKind.i64.wrap (b2) = b2 := by rw [i64_w]; exact z6
            have z7 : wrap64 (b3) = b3 := w64n (by omega) (by omega)
            have v7 : IntKind.i64.wrap (b3) = b3 := by rw [i64_w]; exact z7
            have z8 : wrap64 (16777216 * b0) = 16777216 * b0 := w64n (by omega) (by omega)
            have v8 : IntKind.i64.wrap (16777216 * b0) = 16777216 * b0 := by rw [i64_w]; exact z8
            have z9 : wrap64 (65536 * b1) = 65536 * b1 := w64n (by omega) (by omega)
            have v9 : IntKind.i64.wrap (65536 * b1) = 65536 * b1 := by rw [i64_w]; exact z9
            have z10 : wrap64 (256 * b2) = 256 * b2 := w64n (by omega) (by omega)
            have v10 : IntKind.i64.wrap (256 * b2) = 256 * b2 := by rw [i64_w]; exact z10
            have z11 : wrap64 (16777216 * b0 + 65536 * b1) = 16777216 * b0 + 65536 * b1 := w64n (by omega) (by omega)
            have v11 : IntKind.i64.wrap (16777216 * b0 + 65536 * b1) = 16777216 * b0 + 65536 * b1 := by rw [i64_w]; exact z11
            have z12 : wrap64 (16777216 * b0 + 65536 * b1 + 256 * b2) = 16777216 * b0 + 65536 * b1 + 256 * b2 := w64n (by omega) (by omega)
            have v12 : IntKind.i64.wrap (16777216 * b0 + 65536 * b1 + 256 * b2) = 16777216 * b0 + 65536 * b1 + 256 * b2 := by rw [i64_w]; exact z12
            have z13 : wrap64 (16777216 * b0 + 65536 * b1 + 256 * b2 + b3) = 16777216 * b0 + 65536 * b1 + 256 * b2 + b3 := w64n (by omega) (by omega)
            have v13 : IntKind.i64.wrap (16777216 * b0 + 65536 * b1 + 256 * b2 + b3) = 16777216 * b0 + 65536 * b1 + 256 * b2 + b3 := by rw [i64_w]; exact z13
            have ds := (HS5.out.below HD.out).cell j hlt2
            rw [← hsum] at ds
            clear hb0 hb1 hb2 hb3 hsum
            go_wp2_with fail
            go_quiet (fail)
            clear d0 d1 d2 d3
            generalize 16777216 * b0 + 65536 * b1 + 256 * b2 + b3 = nn at *
            have ds2 : (wr.drewN nq).cell? ⟨g6, j, none⟩ = some (.int .i64 nn) := ds
            have HD6 := Aside0.mk (pw_below_drewN HD.out nq)
            clear ds HD
            generalize wr.drewN nq = w6 at ds2 HD6 ⊢
            go_wp2_with fail
            go_roundw
            case rel => exact ⟨j + 1, by omega, by go_num, HD6⟩
            case measure => simp [intOf]; omega
          · obtain rfl : j = 8 := by omega
            go_wp2_with fail
            refine (chandlerylaw03_awake.calls true wr rfl).mono ?_
            rintro e w7 ⟨rfl, hb7⟩
            have HB7 := Aside0.mk (below_then HB5.out HB5.out.size (below_then HD.out HD.out.size hb7))
            clear hb7
            go_wp2_with fail
            go_ret
            exact ⟨rfl, HB7.out⟩
theorem chandlerylaw03_Sha256Steps.walk (a0 : Option Addr) (len0 cap0 : Nat) (z0 : List Int) (w : World) (w0 : (a0 = none ∧ len0 = 0 ∧ cap0 = 0 ∧ z0 = []) ∨ ∃ x, a0 = some x ∧ len0 ≤ cap0 ∧ cap0 ≤ maxLen ∧ z0.length = cap0 ∧ (∀ i, i < z0.length → w.cell? (x.add i) = some (.int .u8 (z0.getD i 0))) ∧ ∀ n ∈ z0, (Lit.int .u8 n).wf = true) (y0 : len0 * 1 ≤ 140737488351232) :
    Calls Try.prog 15 #[.slice a0 len0 cap0] w fun e w' => e = .returned (.bool true) ∧ Below w.heap.size w w' := by
  obtain ⟨l0, rfl, hr0, hm0, hw0, hc0⟩ := ReadsInt.ofRowC w0
  exact chandlerylaw03_Sha256Steps.calls _ _ l0 w (Kd.C_of_reads (d := (0 : Int)) (h1 := fun _ => rfl) hr0) hc0
end Go.Proofs.Ytffcegbcjkhnoaa.PC
