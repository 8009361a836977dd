/- Plain facts on the printed functions of package wire and of its reference: a text put and told; no memory and no program's step. -/
import Derived.Test.YtffcegbcjkhnoaaMWire2
namespace Go.Proofs.Ytffcegbcjkhnoaa.PC
open Go.RowKit Go.Proofs.YtffcegbcjkhnoaaW.PrintWords Go.Proofs.YtffcegbcjkhnoaaW.PrintLast Go.Proofs.YtffcegbcjkhnoaaW.PrintMore
set_option linter.unusedVariables false

theorem str_bytes (s : ByteArray) : strOfNums (bytesOf s) = s := by
  unfold strOfNums bytesOf
  rw [List.map_map]
  have : (s.data.toList.map ((fun n : Int => UInt8.ofNat n.toNat) ∘ fun b : UInt8 => (b.toNat : Int))) = s.data.toList := by
    have e : ((fun n : Int => UInt8.ofNat n.toNat) ∘ fun b : UInt8 => (b.toNat : Int)) = id := by
      funext b
      simp
    rw [e, List.map_id]
  rw [this]
theorem bytes_str (l : List Int) (h : Byt l) : bytesOf (strOfNums l) = l := by
  unfold bytesOf
  rw [strOfNums_data, List.map_map]
  conv => rhs; rw [← List.map_id l]
  apply List.map_congr_left
  intro x hx
  have := h x hx
  show (((UInt8.ofNat x.toNat).toNat : Nat) : Int) = x
  rw [UInt8.toNat_ofNat_of_lt' (by simp [UInt8.size]; omega)]
  omega
theorem allZ_rep {l : List Int} (h : allZ l = true) : l = List.replicate l.length 0 := by
  rw [List.eq_replicate_iff]
  refine ⟨rfl, fun b hb => ?_⟩
  have := List.all_eq_true.1 h b hb
  simpa using this
theorem rep_allZ (n : Nat) : allZ (List.replicate n 0) = true := by
  unfold allZ
  rw [List.all_eq_true]
  intro x hx
  simp [(List.mem_replicate.1 hx).2]
def textB (s : ByteArray) : List Int := numB s.size ++ (bytesOf s ++ List.replicate (padI s.size).toNat 0)
theorem textB_length (s : ByteArray) : (textB s).length = 8 + (s.size + (padI s.size).toNat) := by simp [textB, numB_length, bytesOf_length]
theorem textB_byt (s : ByteArray) : Byt (textB s) := (numB_byt _).app ((byt_bytesOf s).app (Byt.zeros _))
theorem putText_f (k : Nat) (l : List Int) (s : ByteArray) (hl : l.length ≤ 1000000000000) (hs : s.size ≤ 2147483647) (hk : 10 ≤ k) : wire_PutText.f k l s = some (l ++ textB s) := by
  have hp := padI_bd s.size
  unfold wire_PutText.f
  rw [put_ok k l s.size (by omega) (by omega) (by omega) hk]
  simp only [Option.bind_some]
  rw [if_pos (by simp [numB_length]; omega), pad_f _ (by omega) (by omega)]
  simp only [Option.bind_some]
  rw [if_pos hp.1, if_pos (by simp [numB_length, bytesOf_length]; omega)]
  simp [textB, List.append_assoc]
theorem atS_put (l0 r : List Int) (n : Int) (h0 : 0 ≤ n) (h1 : n ≤ 2147483647) : atS (l0 ++ (numB n ++ r)) l0.length = (n, (l0.length : Int) + 8, 0) := by
  unfold atS
  have hlen : (l0 ++ (numB n ++ r)).length = l0.length + (8 + r.length) := by simp [numB_length]
  rw [if_neg (by omega), if_neg (by omega), Int.toNat_natCast, List.drop_left, List.take_left' (numB_length n), numV_numB n h0 h1, if_neg (by omega)]
theorem textS_put (l0 r : List Int) (s : ByteArray) (hs : s.size ≤ 2147483647) : textS (l0 ++ (textB s ++ r)) l0.length = (s, (l0.length : Int) + (textB s).length, 0) := by
  have hp := padI_bd s.size
  obtain ⟨q, hq⟩ := Int.eq_ofNat_of_zero_le hp.1
  have e : l0 ++ (textB s ++ r) = l0 ++ (numB s.size ++ (bytesOf s ++ (List.replicate q 0 ++ r))) := by
    unfold textB
    rw [hq, Int.toNat_natCast]
    simp [List.append_assoc]
  have hB : (bytesOf s).length = s.size := bytesOf_length s
  have hN := numB_length s.size
  unfold textS
  rw [textB_length, e, atS_put l0 _ s.size (by omega) (by omega)]
  have hlen : (l0 ++ (numB s.size ++ (bytesOf s ++ (List.replicate q 0 ++ r)))).length = l0.length + (8 + (s.size + (q + r.length))) := by simp [hN, hB]
  dsimp only
  rw [if_pos rfl, if_neg (by rw [hlen]; omega)]
  have e1 : ((l0.length : Int) + 8 + s.size + padI s.size).toNat = l0.length + 8 + s.size + q := by omega
  have e2 : ((l0.length : Int) + 8 + s.size).toNat = l0.length + 8 + s.size := by omega
  have e3 : ((l0.length : Int) + 8).toNat = l0.length + 8 := by omega
  have d1 : (l0 ++ (numB s.size ++ (bytesOf s ++ (List.replicate q 0 ++ r)))).drop (l0.length + 8 + s.size) = List.replicate q 0 ++ r := by
    rw [← List.append_assoc, ← List.append_assoc]
    exact List.drop_left' (by simp [hN, hB]; omega)
  have d2 : (l0 ++ (numB s.size ++ (bytesOf s ++ (List.replicate q 0 ++ r)))).drop (l0.length + 8) = bytesOf s ++ (List.replicate q 0 ++ r) := by
    rw [← List.append_assoc]
    exact List.drop_left' (by simp [hN])
  rw [e1, e2, e3, List.drop_take, List.drop_take, d1, d2, show l0.length + 8 + s.size + q - (l0.length + 8 + s.size) = q by omega, show l0.length + 8 + s.size - (l0.length + 8) = s.size by omega,
    List.take_left' (by simp), List.take_left' hB, if_pos (rep_allZ q), str_bytes]
  congr 2
  omega
theorem textS_ok {l : List Int} {i : Int} (hb : Byt l) (h : (textS l i).2.2 = 0) :
    0 ≤ i ∧ i < (textS l i).2.1 ∧ (textS l i).2.1 ≤ l.length ∧ (textS l i).1.size ≤ 2147483647 ∧ textB (textS l i).1 = (l.take (textS l i).2.1.toNat).drop i.toNat := by
  unfold textS at h ⊢
  by_cases he : (atS l i).2.2 = 0
  · rw [if_pos he] at h ⊢
    obtain ⟨h0, h1, hv, ha, n0, n1⟩ := atS_ok hb he
    rw [ha] at h ⊢
    have hv' := Aside0.mk hv
    clear hv
    generalize (atS l i).1 = n at n0 n1 h hv' ⊢
    obtain ⟨n, rfl⟩ := Int.eq_ofNat_of_zero_le n0
    obtain ⟨i, rfl⟩ := Int.eq_ofNat_of_zero_le h0
    have hp := padI_bd n
    obtain ⟨q, hq⟩ := Int.eq_ofNat_of_zero_le hp.1
    by_cases hx : (n : Int) + padI n > (l.length : Int) - ((i : Int) + 8)
    · rw [if_pos hx] at h; cases h
    · rw [if_neg hx] at h ⊢
      have e1 : ((i : Int) + 8 + n + padI n).toNat = i + 8 + n + q := by omega
      have e2 : ((i : Int) + 8 + n).toNat = i + 8 + n := by omega
      have e3 : ((i : Int) + 8).toNat = i + 8 := by omega
      rw [e1, e2, e3] at h ⊢
      by_cases hz : allZ ((l.take (i + 8 + n + q)).drop (i + 8 + n)) = true
      · rw [if_pos hz]
        simp only
        have hB : Byt ((l.take (i + 8 + n)).drop (i + 8)) := (hb.take _).drop _
        have hsz : (strOfNums ((l.take (i + 8 + n)).drop (i + 8))).size = n := by rw [strOfNums_size]; simp; omega
        refine ⟨by omega, by omega, by omega, by omega, ?_⟩
        rw [e1]
        unfold textB
        rw [bytes_str _ hB, hsz, hq, Int.toNat_natCast, hv'.out, Int.toNat_natCast, numB_numV _ ((hb.drop _).take _) (by simp; omega)]
        have hz' := allZ_rep hz
        rw [show ((l.take (i + 8 + n + q)).drop (i + 8 + n)).length = q by simp; omega] at hz'
        rw [← hz', List.drop_take, List.drop_take, List.drop_take, show i + 8 + n - (i + 8) = n by omega, show i + 8 + n + q - (i + 8 + n) = q by omega, show i + 8 + n + q - i = 8 + (n + q) by omega,
          List.take_add, List.take_add, List.drop_drop, List.drop_drop, show i + (8) = i + 8 from rfl]
      · rw [if_neg hz] at h; cases h
  · rw [if_neg he] at h; exact absurd h he
theorem textS_no {l : List Int} {i : Int} (h : ¬ (textS l i).2.2 = 0) : (textS l i).1 = ⟨#[]⟩ ∧ (textS l i).2.1 = 0 := by
  unfold textS at h ⊢
  split
  · rename_i he
    rw [if_pos he] at h
    split
    · exact ⟨rfl, rfl⟩
    · rename_i hx
      rw [if_neg hx] at h
      split
      · rename_i hz
        rw [if_pos hz] at h
        exact absurd rfl h
      · exact ⟨rfl, rfl⟩
  · exact ⟨rfl, rfl⟩
theorem empty_toList : (⟨#[]⟩ : ByteArray).toList = [] := by decide +kernel
theorem awake1 (k : Nat) (hk : 40 ≤ k) : chandlerylaw01_awake.f k = some true :=
  at_rounds (fun k => chandlerylaw01_awake.mono k) hk (by decide +kernel : chandlerylaw01_awake.f 40 = some true)
end Go.Proofs.Ytffcegbcjkhnoaa.PC
