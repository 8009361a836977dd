/- The contract of the hash's take: every whole block is mixed into the words, the rest is kept in a row of its own. -/
import Derived.Test.YtffcegbcjkhnoaaGNew
import Derived.Test.YtffcegbcjkhnoaaGClone
import Derived.Test.YtffcegbcjkhnoaaGCat
namespace Go.Proofs.Ytffcegbcjkhnoaa.PC
open Go.RowKit Go.Proofs.YtffcegbcjkhnoaaW.PrintWords Go.Proofs.YtffcegbcjkhnoaaW.PrintLast Go.Proofs.YtffcegbcjkhnoaaW.PrintMore
set_option linter.unusedVariables false
set_option linter.unusedSimpArgs false
/-- The words behind k blocks of l. -/
def blk (l : List Int) (k : Nat) : List Int := (l.drop (64 * k)).take 64
def takeK (st l : List Int) : Nat → List Int
  | 0 => st
  | k + 1 => mixS (takeK st l k) (blk l k)
theorem takeK_length (st l : List Int) (h : st.length = 8) (k : Nat) : (takeK st l k).length = 8 := by
  cases k
  · exact h
  · exact mixS_length _ _
theorem hashC_putTo (st ys : List Int) (rest : Value) (n : Int) (hl : st.length = 8) (hy : ys.length = 8) : putTo (hashC st rest n) ys 8 = hashC ys rest n := by
  unfold putTo hashC
  rw [List.take_of_length_le (by omega)]
  simp only [List.toList_toArray]
  rw [List.drop_append_of_le_length (by simp [nums]; omega), List.drop_of_length_le (by simp [nums]; omega)]
  simp
theorem grown_trans {a b c : World} {r : Option Nat} (h : a.grownBy b r) (k : b.grownBy c r) : a.grownBy c r :=
  ⟨k.os.trans h.os, k.tape.trans h.tape, k.output.trans h.output, Nat.le_trans h.size k.size, fun i hi hn => (k.block i (Nat.lt_of_lt_of_le hi h.size) hn).trans (h.block i hi hn)⟩
theorem grown_refl (a : World) (r : Option Nat) : a.grownBy a r := ⟨rfl, rfl, rfl, Nat.le_refl _, fun _ _ _ => rfl⟩
theorem grown_drewN {a b : World} {r : Option Nat} (h : a.grownBy b r) (m : Nat) : a.grownBy (b.drewN m) r := ⟨h.os, h.tape, h.output, h.size, h.block⟩
theorem grown_below {a b c : World} {r : Option Nat} (h : a.grownBy b r) (k : Below b.heap.size b c) : a.grownBy c r :=
  ⟨k.os.trans h.os, k.tape.trans h.tape, k.output.trans h.output, Nat.le_trans h.size k.size, fun i hi hn => (k.block i (Nat.lt_of_lt_of_le hi h.size)).trans (h.block i hi hn)⟩
theorem C_grown {w w1 : World} {g n : Nat} {A : Option Addr} {l : List Int} (h : Kd.C (Kd.int .u8) w A n l) (hg : w.grownBy w1 (some g)) (hne : ∀ ad, A = some ad → 0 < n → ad.block ≠ g) : Kd.C (Kd.int .u8) w1 A n l := by
  refine Kd.C_keep (g := g) 0 h ?_ hne
  exact ⟨hg.size, fun i hi hn _ => hg.block i hi (by simpa using hn)⟩
theorem hashC_rest (st : List Int) (rest : Value) (n : Int) (hl : st.length = 8) : (hashC st rest n)[8]? = some rest := by
  simp only [hashC, List.getElem?_toArray]
  rw [List.getElem?_append_right (by simp [nums]; omega)]
  simp [nums, hl]
theorem hashC_num (st : List Int) (rest : Value) (n : Int) (hl : st.length = 8) : (hashC st rest n)[9]? = some (.int .i64 n) := by
  simp only [hashC, List.getElem?_toArray]
  rw [List.getElem?_append_right (by simp [nums]; omega)]
  simp [nums, hl]
theorem hashC_putRest (st : List Int) (rest v : Value) (n : Int) (hl : st.length = 8) : (hashC st rest n).setIfInBounds 8 v = hashC st v n := by
  simp only [hashC, List.setIfInBounds_toArray]
  congr 1
  rw [List.set_append_right _ _ (by simp [nums]; omega)]
  simp [nums, hl]
theorem hashC_putNum (st : List Int) (rest : Value) (n m : Int) (hl : st.length = 8) : (hashC st rest n).setIfInBounds 9 (.int .i64 m) = hashC st rest m := by
  simp only [hashC, List.setIfInBounds_toArray]
  congr 1
  rw [List.set_append_right _ _ (by simp [nums]; omega)]
  simp [nums, hl]
theorem takeS_cut (l : List Int) (k : Nat) (h : 64 * k ≤ l.length) (h2 : ¬ 64 ≤ (l.drop (64 * k)).length) : k = l.length / 64 := by
  rw [List.length_drop] at h2
  omega
set_option maxRecDepth 100000 in
theorem take_calls (g c0 : Nat) (A0 : Option Addr) (st l : List Int) (rest : Value) (n : Int) (hst : st.length = 8) (hl : l.length ≤ 1000000000000) (hc : l.length ≤ c0) (w : World) (hr : Kd.C (Kd.int .u8) w A0 l.length l) (hne : ∀ ad, A0 = some ad → ad.spot = none ∧ ad.block ≠ g) (hH : HashAt w g st rest n) :
    Calls Try.prog 60 #[.pointer (some ⟨g, 0, none⟩), .slice A0 l.length c0] w fun e w' => e = .returned (.tuple #[]) ∧ w.grownBy w' (some g) ∧ ∃ v, HashAt w' g (takeK st l (l.length / 64)) v n ∧ Kd.R (Kd.int .u8) 5 w' w.heap.size (fun _ => True) v (l.drop (64 * (l.length / 64))) := by
  have HR := Aside0.mk hr
  have HN := Aside0.mk hne
  have HH0 := Aside0.mk hH
  have hglt : g < w.heap.size := (Array.getElem?_eq_some_iff.1 hH).1
  clear hr hne hH
  obtain ⟨i0, hi, _, hsz, _⟩ := info_parts info5
  go_enter Try.func60, Try.ntmps60
  go_wp2_with fail
  go_loopw [1] (fun v wr => ∃ (k : Nat) (A : Option Addr) (c : Nat), 64 * k ≤ l.length ∧ v = .slice A (l.drop (64 * k)).length c ∧ (l.drop (64 * k)).length ≤ c ∧ Aside0 (Kd.C (Kd.int .u8) wr A (l.drop (64 * k)).length (l.drop (64 * k)) ∧ (∀ ad, A = some ad → ad.spot = none ∧ ad.block ≠ g)) ∧ Aside0 (HashAt wr g (takeK st l k) rest n) ∧ Aside0 (w.grownBy wr (some g))) (fun v _ => (match v with | .slice _ n _ => n | _ => 0))
  case atStart => exact ⟨0, A0, c0, by omega, by simp, by simpa using hc, ⟨by simpa using HR.out, HN.out⟩, HH0, ⟨grown_refl _ _⟩⟩
  case round =>
    obtain ⟨k, A, c, hk, rfl, hcc, HC, HH, HG⟩ := hrel
    have hcutk := takeS_cut l k hk
    generalize hD : l.drop (64 * k) = D at *
    have hDl : D.length = l.length - 64 * k := by rw [← hD, List.length_drop]
    by_cases h64 : 64 ≤ D.length
    · have i64 : (64 : Int) ≤ D.length := by omega
      have i64c : (64 : Int) ≤ c := by omega
      go_wp2_with fail
      go_still_tail 5, (by kernel_rfl)
      change wpList _ _ _ _ _ wr.drew
      go_wp2_with fail
      obtain ⟨⟨ab, ao, sp⟩, e1, -⟩ := HC.out.1.2.2 (by omega)
      obtain ⟨e2, hab⟩ := HC.out.2 _ e1
      dsimp only at e2 hab
      subst e1 e2
      have hlen64 : (D.take 64).length = 64 := by rw [List.length_take]; omega
      have hrd : Kd.C (Kd.int .u8) wr.drew (some ⟨ab, ao, none⟩) 64 (D.take 64) := by
        have := Kd.C_take HC.out.1 h64
        rw [hlen64] at this
        exact Kd.C_drew this
      refine (mix_calls g ab ao 64 75 _ (takeK st l k) (D.take 64) (by omega) wr.drew hrd HH.out (hashC_cell _ _ _ (takeK_length st l hst k))).mono ?_
      rintro e w1 ⟨rfl, hg1, hb1⟩
      rw [hashC_putTo _ _ _ _ (takeK_length st l hst k) (mixS_length _ _)] at hb1
      have HH2 : Aside0 (HashAt w1 g (takeK st l (k + 1)) rest n) := ⟨by rw [takeK, blk, hD]; exact hb1⟩
      have HG2 : Aside0 (w.grownBy w1 (some g)) := ⟨grown_trans (grown_drewN HG.out 1) hg1⟩
      have hC2 := C_grown (Kd.C_drew HC.out.1) hg1 (fun ad he _ => (HC.out.2 ad he).2)
      have hcd := Kd.C_drop (c := c) hC2 h64 hcc
      have hcut := cut_from (P := Try.prog) 22 5 .i64 Try.underlying22 hi _ hsz (some ⟨ab, ao, none⟩) D.length c 64 (by omega) (by omega)
      have HC2 := Aside0.mk hcd
      clear hcd hC2 hg1 hb1 hrd HG HH
      go_wp2_with fail
      go_roundw
      case rel =>
        have hdd : l.drop (64 * (k + 1)) = D.drop 64 := by rw [← hD, List.drop_drop]; congr 1
        have hdl : (l.drop (64 * (k + 1))).length = l.length - 64 * k - 64 := by rw [hdd, List.length_drop, hDl]
        refine ⟨k + 1, if c = 64 then some ⟨ab, ao, none⟩ else some ⟨ab, ao + 64, none⟩, c - 64, by omega, by rw [hdl], by rw [hdl]; omega, ⟨by rw [hdd]; exact HC2.out, ?_⟩, HH2, HG2⟩
        intro ad he
        split at he
        · cases he; exact ⟨rfl, hab⟩
        · cases he; exact ⟨rfl, hab⟩
      case measure =>
        show l.length - 64 * k - 64 < D.length
        omega
    · have i64 : ¬ (64 : Int) ≤ D.length := by omega
      go_wp2_with fail
      rw [← hDl]
      refine (slices_Clone_byte_byte.calls A c D D wr HC.out.1 hcc (by rw [slices_Clone_byte_byte.f, Option.bind_some, List.nil_append, if_pos (by simp; omega)])).mono ?_
      rintro e w1 ⟨v0, rfl, hR0, hB0⟩
      obtain ⟨Av, cv, rfl⟩ := Kd.R_slice hR0
      have HR0 := Aside0.mk hR0
      have HB0 := Aside0.mk hB0
      have hgw : g < wr.heap.size := by have := HG.out.size; omega
      have HH1 : Aside0 (HashAt w1 g (takeK st l k) rest n) := ⟨by unfold HashAt; rw [hB0.block g hgw]; exact HH.out⟩
      clear hR0 hB0
      have d0 : w1.cell? ⟨g, 8, none⟩ = some rest := by
        rw [cell_of_row w1 _ 8 _ 75 (0, 0) HH1.out]
        exact hashC_rest _ _ _ (takeK_length st l hst k)
      have f0 : w1.frozen? ⟨g, 8, none⟩ = false := frozen_of_row w1 _ 8 _ 75 HH1.out
      go_wp2_with fail
      go_end0
      have hkk := hcutk h64
      rw [← hDl]
      refine ⟨rfl, ?_, .slice Av D.length cv, ?_, ?_⟩
      · have := grown_below HG.out HB0.out
        exact ⟨this.os, this.tape, this.output, by simpa [World.setCell] using this.size, fun i hi hn => (Below.heap_setCell w1 ⟨g, 8, none⟩ _ i (by simpa using hn)).trans (this.block i hi hn)⟩
      · unfold HashAt
        rw [heap_setCell_at HH1.out, hashC_putRest _ _ _ _ (takeK_length st l hst k), ← hkk]
      · rw [← hkk, hD]
        refine Kd.R_lower (Kd.R_set HR0.out HH1.out ?_ 8 _) HG.out.size
        intro q hq
        have hq5 : q = 5 := by simpa [Kd.int, Kd.scalar] using hq
        subst hq5
        decide
end Go.Proofs.Ytffcegbcjkhnoaa.PC
