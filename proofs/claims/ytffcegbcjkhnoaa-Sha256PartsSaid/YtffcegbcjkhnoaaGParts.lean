/- What the walk of Sha256Parts leans on: the hash's calls on no hash, rows that stay under another row's change, the rows one behind the other. -/
import Derived.Test.YtffcegbcjkhnoaaGAw3
namespace Go.Proofs.Ytffcegbcjkhnoaa.PC
open Go.RowKit Go.Proofs.YtffcegbcjkhnoaaW.PrintWords Go.Proofs.YtffcegbcjkhnoaaW.PrintLast Go.Proofs.YtffcegbcjkhnoaaW.PrintMore
set_option linter.unusedVariables false
set_option linter.unusedSimpArgs false
set_option maxRecDepth 100000 in
theorem write_none (w : World) : Calls Try.prog 41 #[.pointer none, .slice none 0 0] w fun e w' => e = .returned (.int .i64 3) ∧ w' = w := by
  go_enter Try.func41, Try.ntmps41
  go_wp2_with fail
  go_ret
  exact ⟨rfl, rfl⟩
set_option maxRecDepth 100000 in
theorem hsum_none (w : World) : Calls Try.prog 42 #[.pointer none] w fun e w' => e = .returned (.tuple #[.slice none 0 0, .int .i64 3]) ∧ w' = w := by
  go_enter Try.func42, Try.ntmps42
  go_wp2_with fail
  go_ret2
  exact ⟨rfl, rfl⟩
theorem R_keepG {w w1 : World} {base : Nat} {ok : Nat → Prop} {v : Value} {xs : List Int} (h : Kd.R (Kd.int .u8) 5 w base ok v xs) {row : Option Nat} (hg : w.grownBy w1 row) (hd : ∀ k, v.ownBlock = some k → some k ≠ row) : Kd.R (Kd.int .u8) 5 w1 base (fun _ => True) v xs :=
  Kd.R_mono (Kd.R_grown (Kd.R_of_own (h1 := fun _ => rfl) (Kd.own_of_R h) (ok := fun k => some k ≠ row) hd) hg (fun _ hk => hk)) (fun _ _ => trivial)
theorem R_okk {w : World} {base : Nat} {ok ok' : Nat → Prop} {v : Value} {xs : List Int} (h : Kd.R (Kd.int .u8) 5 w base ok v xs) (hd : ∀ k, v.ownBlock = some k → ok' k) : Kd.R (Kd.int .u8) 5 w base ok' v xs :=
  Kd.R_of_own (h1 := fun _ => rfl) (Kd.own_of_R h) hd
theorem HashAt.keepG {w w1 : World} {g : Nat} {st : List Int} {v : Value} {n : Int} (h : HashAt w g st v n) {row : Option Nat} (hg : w.grownBy w1 row) (hd : some g ≠ row) : HashAt w1 g st v n := by
  unfold HashAt at *
  rw [hg.block g (Array.getElem?_eq_some_iff.1 h).1 hd]
  exact h
theorem HashAt.below {w w1 : World} {g : Nat} {st : List Int} {v : Value} {n : Int} (h : HashAt w g st v n) (hb : Below w.heap.size w w1) : HashAt w1 g st v n :=
  h.keepG (grown_of_below hb none) (by simp)
theorem HashAt.lt {w : World} {g : Nat} {st : List Int} {v : Value} {n : Int} (h : HashAt w g st v n) : g < w.heap.size := (Array.getElem?_eq_some_iff.1 h).1
/-- The first i rows, one behind the other. -/
def joinS (ps : List (List Int)) (i : Nat) : List Int := (ps.take i).flatten
theorem joinS_succ (ps : List (List Int)) (i : Nat) (h : i < ps.length) : joinS ps i ++ rd_L3 ps (i : Int) = joinS ps (i + 1) := by
  have e : rd_L3 ps (i : Int) = ps[i] := by rw [rd_L3, Int.toNat_natCast, List.getD_eq_getElem?_getD, List.getElem?_eq_getElem h]; rfl
  rw [joinS, joinS, List.take_succ_eq_append_getElem h, List.flatten_append, e]
  simp
theorem blk_leftP (l m : List Int) (k : Nat) (h : 64 * k + 64 ≤ l.length) : blk (l ++ m) k = blk l k := by
  unfold blk
  rw [List.drop_append_of_le_length (by omega), List.take_append_of_le_length (by rw [List.length_drop]; omega)]
theorem takeK_leftP (st l m : List Int) : ∀ k, 64 * k ≤ l.length → takeK st (l ++ m) k = takeK st l k
  | 0, _ => rfl
  | k + 1, h => by rw [takeK, takeK, takeK_leftP st l m k (by omega), blk_leftP l m k (by omega)]
theorem takeK_shiftP (st l : List Int) (q : Nat) : ∀ m, takeK st l (q + m) = takeK (takeK st l q) (l.drop (64 * q)) m
  | 0 => rfl
  | m + 1 => by
    rw [← Nat.add_assoc, takeK, takeK, takeK_shiftP st l q m]
    congr 1
    unfold blk
    rw [List.drop_drop, show 64 * q + 64 * m = 64 * (q + m) by omega]
/-- What is left of all, and the words so far. -/
def restS (l : List Int) : List Int := l.drop (64 * (l.length / 64))
def wordS (l : List Int) : List Int := takeK startL l (l.length / 64)
theorem restS_length (l : List Int) : (restS l).length < 64 := by
  rw [restS, List.length_drop]
  omega
theorem wordS_length (l : List Int) : (wordS l).length = 8 := takeK_length _ _ rfl _
theorem step_words (al l : List Int) : takeK (wordS al) (restS al ++ l) ((restS al ++ l).length / 64) = wordS (al ++ l) ∧ (restS al ++ l).drop (64 * ((restS al ++ l).length / 64)) = restS (al ++ l) := by
  have hq : 64 * (al.length / 64) ≤ al.length := by omega
  have hd : (al ++ l).drop (64 * (al.length / 64)) = restS al ++ l := by rw [restS, List.drop_append_of_le_length hq]
  have hl : (restS al ++ l).length + 64 * (al.length / 64) = (al ++ l).length := by
    rw [← hd, List.length_drop, List.length_append]
    omega
  have hn : (al ++ l).length / 64 = al.length / 64 + (restS al ++ l).length / 64 := by omega
  constructor
  · rw [wordS, wordS, hn, takeK_shiftP, hd, takeK_leftP _ _ _ _ hq]
  · have e : restS (al ++ l) = (al ++ l).drop (64 * ((al ++ l).length / 64)) := rfl
    rw [e, hn, ← hd, List.drop_drop]
    congr 1
    omega
theorem sha_end (al : List Int) : outB (takeK (wordS al) (restS al ++ padS al.length) ((restS al ++ padS al.length).length / 64)) 8 = shaS al := rfl
/-- A row of the call's own, as a block of bytes. -/
def Bytes (w : World) (g n : Nat) : Prop := ∃ cur : Array Value, w.heap[g]? = some (.cells cur 5 (0, 0)) ∧ ∀ j, j < n → ∃ b : Int, cur[j]? = some (.int .u8 b)
theorem Bytes.of_R {w : World} {base : Nat} {ok : Nat → Prop} {A : Option Addr} {n c : Nat} {xs : List Int} (h : Kd.R (Kd.int .u8) 5 w base ok (.slice A n c) xs) (h0 : 0 < n) : ∃ g, A = some ⟨g, 0, none⟩ ∧ Bytes w g n := by
  obtain ⟨hn, -⟩ := Kd.R_reads' h
  obtain ⟨hl, ho⟩ := Kd.own_of_R h
  rcases ho with ⟨h1, h2⟩ | ⟨g, cap, cur, h1, h2, h3, h4, h5, h6, h7⟩
  · injection h1 with e1 e2 e3
    omega
  · injection h1 with e1 e2 e3
    refine ⟨g, e1, cur, h3, fun j hj => ?_⟩
    have hj2 : j < (encs (Value.int .u8) xs).length := by
      rw [hl]
      omega
    have h8 : (cur.toList.take (xs.length * 1))[j]? = (encs (Value.int .u8) xs)[j]? := by rw [h7]
    rw [List.getElem?_take_of_lt (by omega), List.getElem?_eq_getElem hj2] at h8
    refine ⟨xs[j]'(by omega), ?_⟩
    rw [← Array.getElem?_toList, h8]
    simp [encs]
theorem Bytes.put {w : World} {g n : Nat} (h : Bytes w g n) (j : Nat) (b : Int) : Bytes (w.setCell ⟨g, j, none⟩ (.int .u8 b)) g n := by
  obtain ⟨cur, h1, h2⟩ := h
  refine ⟨cur.setIfInBounds j (.int .u8 b), heap_setCell_at h1 _, fun i hi => ?_⟩
  obtain ⟨b2, hb2⟩ := h2 i hi
  by_cases hij : j = i
  · subst hij
    refine ⟨b, ?_⟩
    rw [Array.getElem?_setIfInBounds_self, if_pos (Array.getElem?_eq_some_iff.1 hb2).1]
  · exact ⟨b2, by rw [Array.getElem?_setIfInBounds_ne hij]; exact hb2⟩
theorem Bytes.cell {w : World} {g n : Nat} (h : Bytes w g n) (j : Nat) (hj : j < n) : ∃ b : Int, w.cell? ⟨g, j, none⟩ = some (.int .u8 b) := by
  obtain ⟨cur, h1, h2⟩ := h
  obtain ⟨b, hb⟩ := h2 j hj
  exact ⟨b, by rw [cell_of_row w g j cur 5 (0, 0) h1]; exact hb⟩
theorem Bytes.free {w : World} {g n : Nat} (h : Bytes w g n) (j : Nat) : w.frozen? ⟨g, j, none⟩ = false := by
  obtain ⟨cur, h1, h2⟩ := h
  exact frozen_of_row w g j cur 5 h1
end Go.Proofs.Ytffcegbcjkhnoaa.PC
