/- The plain half of Sha256Sums: the reference's digest of any bytes is the program's, block by block. -/
import Derived.Test.YtffcegbcjkhnoaaCSums
import Derived.Test.YtffcegbcjkhnoaaMWire
namespace Go.Proofs.Ytffcegbcjkhnoaa.Pure
open Go.RowKit Go.Proofs.Ytffcegbcjkhnoaa.PC Go.Proofs.YtffcegbcjkhnoaaW.PrintWords Go.Proofs.YtffcegbcjkhnoaaW.PrintLast
set_option linter.unusedVariables false
def allS (l : List Int) : List Int := l ++ padS l.length
theorem padS_len (n : Nat) : (padS n).length = 72 - (n + 8) % 64 := by
  simp [padS]
  omega
theorem allS_len (l : List Int) : ∃ N, (allS l).length = 64 * N ∧ 64 * N ≤ l.length + 72 := by
  have h := padS_len l.length
  refine ⟨(l.length + (72 - (l.length + 8) % 64)) / 64, ?_, ?_⟩
  · rw [allS, List.length_append, h]
    omega
  · omega
theorem blk_left (l m : List Int) (k : Nat) (h : 64 * k + 64 ≤ l.length) : blk (l ++ m) k = blk l k := by
  unfold blk
  rw [List.drop_append_of_le_length (by omega), List.take_append_of_le_length (by rw [List.length_drop]; omega)]
theorem takeK_left (st l m : List Int) : ∀ k, 64 * k ≤ l.length → takeK st (l ++ m) k = takeK st l k
  | 0, _ => rfl
  | k + 1, h => by rw [takeK, takeK, takeK_left st l m k (by omega), blk_left l m k (by omega)]
theorem takeK_shift (st l : List Int) (q : Nat) : ∀ m, takeK st l (q + m) = takeK (takeK st l q) (l.drop (64 * q)) m
  | 0 => rfl
  | m + 1 => by
    rw [← Nat.add_assoc, takeK, takeK, takeK_shift st l q m]
    congr 1
    unfold blk
    rw [List.drop_drop, show 64 * q + 64 * m = 64 * (q + m) by omega]
theorem sha_all (l : List Int) (N : Nat) (h : (allS l).length = 64 * N) : shaS l = outB (takeK startL (allS l) N) 8 := by
  unfold shaS stateS
  have hq : 64 * (l.length / 64) ≤ l.length := by omega
  have hd : (allS l).drop (64 * (l.length / 64)) = endS l := by
    unfold allS endS
    rw [List.drop_append_of_le_length hq]
  have hl : (endS l).length + 64 * (l.length / 64) = 64 * N := by
    rw [← hd, List.length_drop, h]
    have : (allS l).length = l.length + (padS l.length).length := by rw [allS, List.length_append]
    omega
  rw [show N = l.length / 64 + (endS l).length / 64 by omega, takeK_shift, hd]
  congr 2
  unfold allS
  rw [takeK_left _ _ _ _ hq]
theorem okW_of {l : List Int} (h : ∀ x ∈ l, U x) : okW l = true := List.all_eq_true.2 fun x hx => decide_eq_true (h x hx)
theorem okB_of {l : List Int} (h : ∀ x ∈ l, U8 x) : okB l = true := List.all_eq_true.2 fun x hx => decide_eq_true (h x hx)
theorem U_start : ∀ x ∈ startL, U x := by
  have : ∀ x ∈ startL, 0 ≤ x ∧ x < 4294967296 := by decide
  exact this
theorem U_takeK {st : List Int} (h : ∀ x ∈ st, U x) (l : List Int) : ∀ k, ∀ x ∈ takeK st l k, U x
  | 0 => h
  | k + 1 => U_mixS _ _
theorem mem_blk {l : List Int} {k : Nat} {x : Int} (h : x ∈ blk l k) : x ∈ l := List.mem_of_mem_drop (List.mem_of_mem_take h)
theorem padS_U8 (n : Int) : ∀ x ∈ padS n, U8 x := by
  intro x hx
  unfold padS at hx
  rcases List.mem_append.1 hx with h | h
  · rcases List.mem_or_eq_of_mem_set h with h | h
    · rw [(List.mem_replicate.1 h).2]
      exact ⟨by decide, by decide⟩
    · rw [h]
      exact ⟨by decide, by decide⟩
  · obtain ⟨j, _, rfl⟩ := List.mem_map.1 h
    exact ⟨by omega, by omega⟩
theorem allS_U8 {l : List Int} (h : ∀ x ∈ l, U8 x) : ∀ x ∈ allS l, U8 x := fun x hx => (List.mem_append.1 hx).elim (h x) (padS_U8 _ x)
theorem mix_f (st b : List Int) (h8 : st.length = 8) (hu : ∀ x ∈ st, U x) (h64 : b.length = 64) (hb : ∀ x ∈ b, U8 x) : chandleryref03_Mix.f st b = some (mixS st b) := by
  rw [chandleryref03_Mix.f, if_pos ⟨h8, h64, okW_of hu, okB_of hb⟩]
theorem word4_ref {x : Int} (h : U x) : [(wrap64 (Int.tdiv x 16777216)) % 256, (Int.tmod (wrap64 (Int.tdiv x 65536)) 256) % 256, (Int.tmod (wrap64 (Int.tdiv x 256)) 256) % 256, (Int.tmod x 256) % 256] = word4 x := by
  rw [quoU h _ (by decide), quoU h _ (by decide), quoU h _ (by decide)]
  have h0 := h.1
  have a1 := U_quo h 65536 (by decide)
  have a2 := U_quo h 256 (by decide)
  rw [Int.tmod_eq_emod_of_nonneg a1.1, Int.tmod_eq_emod_of_nonneg a2.1, Int.tmod_eq_emod_of_nonneg h0, Int.emod_emod, Int.emod_emod, Int.emod_emod]
  rfl
theorem sum_l1 (st : List Int) (h8 : st.length = 8) (hu : ∀ x ∈ st, U x) (m : Nat) : ∀ (i fuel : Nat), i + m = 8 → m + 1 ≤ fuel → chandleryref03_Sum.l1 fuel st (outB st i) i = some (outB st 8) := by
  induction m with
  | zero =>
    intro i fuel hi hf
    obtain ⟨f, rfl⟩ : ∃ f, fuel = f + 1 := ⟨fuel - 1, by omega⟩
    obtain rfl : i = 8 := by omega
    rw [chandleryref03_Sum.l1, if_neg (by omega)]
  | succ m ih =>
    intro i fuel hi hf
    obtain ⟨f, rfl⟩ : ∃ f, fuel = f + 1 := ⟨fuel - 1, by omega⟩
    rw [chandleryref03_Sum.l1, if_pos (by omega), if_pos (by omega), if_pos (by omega), word4_ref (U_rd hu (i : Int)), Option.bind_some,
      if_pos (by rw [outB_length st i (by omega)]; simp only [word4, List.length_cons, List.length_nil]; omega), outB_succ st i (by omega), w64n (by omega) (by omega)]
    exact ih (i + 1) f (by omega) (by omega)
theorem sum_l0 (all : List Int) (N : Nat) (hl : all.length = 64 * N) (hN : N ≤ 1000) (hb : ∀ x ∈ all, U8 x) (m : Nat) : ∀ (i fuel : Nat), i + m = N → m + 11 ≤ fuel →
    chandleryref03_Sum.l0 fuel all (takeK startL all i) ((64 * i : Nat) : Int) = some (outB (takeK startL all N) 8) := by
  induction m with
  | zero =>
    intro i fuel hi hf
    obtain ⟨f, rfl⟩ : ∃ f, fuel = f + 1 := ⟨fuel - 1, by omega⟩
    obtain rfl : i = N := by omega
    rw [chandleryref03_Sum.l0, if_neg (by omega)]
    exact sum_l1 _ (takeK_length _ _ rfl _) (U_takeK U_start _ _) 8 0 f rfl (by omega)
  | succ m ih =>
    intro i fuel hi hf
    obtain ⟨f, rfl⟩ : ∃ f, fuel = f + 1 := ⟨fuel - 1, by omega⟩
    have e : wrap64 (((64 * i : Nat) : Int) + 64) = ((64 * (i + 1) : Nat) : Int) := by rw [w64n (by omega) (by omega)]; omega
    have hbk : (all.take (64 * (i + 1))).drop (64 * i) = blk all i := by
      rw [blk, List.drop_take, show 64 * (i + 1) - 64 * i = 64 by omega]
    rw [chandleryref03_Sum.l0, if_pos (by omega), if_pos (by omega), e, if_pos (by omega), if_pos (by omega), Int.toNat_natCast, Int.toNat_natCast, hbk,
      mix_f _ _ (takeK_length _ _ rfl _) (U_takeK U_start _ _) (by rw [blk, List.length_take, List.length_drop]; omega) (fun x hx => hb x (mem_blk hx)), Option.bind_some]
    exact ih (i + 1) f (by omega) (by omega)
theorem start_f : chandleryref03_Start.f 100 = some startL := by decide +kernel
theorem ref_sum (l : List Int) (hl : l.length ≤ 2000) (hb : ∀ x ∈ l, U8 x) : chandleryref03_Sum.f 100 l = some (shaS l) := by
  obtain ⟨N, hN, hN2⟩ := allS_len l
  have hp := padS_len l.length
  rw [chandleryref03_Sum.f, if_pos (by simp only [List.length_nil]; omega), Option.bind_some, List.nil_append, chandleryref03_Pad.f, if_pos (by omega), Option.bind_some, if_pos (by rw [hp]; omega), start_f, Option.bind_some, sha_all l N hN]
  exact sum_l0 (allS l) N hN (by omega) (allS_U8 hb) N 0 100 (by omega) (by omega)
theorem wf_U8 {x : Int} (h : (Lit.int .u8 x).wf = true) : U8 x := by
  have := wfb h
  exact ⟨by omega, by omega⟩
theorem Sha256Sums : chandlerylaw03_Sha256Sums.Pure := by
  intro l0 h1 h2 hw
  refine ⟨100, ?_⟩
  unfold chandlerylaw03_Sha256Sums.f
  by_cases hn : (l0.length : Int) > 600
  · rw [if_pos hn]
  · rw [if_neg hn, Option.bind_some, if_pos (by simp only [List.length_nil]; omega), Option.bind_some, List.nil_append, sha256_Sum.f, if_pos (by omega), Option.bind_some, chandlerylaw03_awake.f, Option.bind_some, if_pos rfl, if_pos rfl,
      ref_sum l0 (by omega) (fun x hx => wf_U8 (hw x hx)), Option.bind_some]
    simp
end Go.Proofs.Ytffcegbcjkhnoaa.Pure
