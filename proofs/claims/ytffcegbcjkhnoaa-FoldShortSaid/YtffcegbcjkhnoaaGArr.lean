/- What is read and written in a block of the call's own that holds words: plain facts on memory, and the words that sha256.mix computes. -/
import Derived.Test.YtffcegbcjkhnoaaGRot
import Derived.StillTailTactics
import Derived.Great.BuildSlice
import Derived.Deep.WholeRow
namespace Go.Proofs.Ytffcegbcjkhnoaa.PC
open Go.Great
open Go.RowKit Go.Proofs.YtffcegbcjkhnoaaW.PrintWords Go.Proofs.YtffcegbcjkhnoaaW.PrintLast Go.Proofs.YtffcegbcjkhnoaaW.PrintMore
set_option linter.unusedVariables false
set_option linter.unusedSimpArgs false
/-- Block g holds these words and nothing else. -/
structure Arr (w : World) (g T n : Nat) (xs : List Int) : Prop where
  len : xs.length = n
  blk : w.heap[g]? = some (.cells (nums .u32 xs).toArray T (0, 0))
theorem Arr.cell {w : World} {g T n : Nat} {xs : List Int} (h : Arr w g T n xs) (j : Nat) (hj : j < n) : w.cell? ⟨g, j, none⟩ = some (.int .u32 (rd xs (j : Int))) := by
  have hl : j < xs.length := by rw [h.len]; exact hj
  rw [rd, Int.toNat_natCast]
  simp [World.cell?, h.blk, nums, List.getElem?_eq_getElem hl, List.getD_eq_getElem?_getD]
theorem Arr.free {w : World} {g T n : Nat} {xs : List Int} (h : Arr w g T n xs) (j : Nat) : w.frozen? ⟨g, j, none⟩ = false := by
  simp [World.frozen?, h.blk]
theorem heap_setCell_at {w : World} {g j T : Nat} {cs : Array Value} {fr : Nat × Nat} (h : w.heap[g]? = some (.cells cs T fr)) (v : Value) :
    (w.setCell ⟨g, j, none⟩ v).heap[g]? = some (.cells (cs.setIfInBounds j v) T fr) := by
  simp [World.setCell, Array.getElem?_modify, h]
theorem Arr.put {w : World} {g T n : Nat} {xs : List Int} (h : Arr w g T n xs) (j : Nat) (x : Int) : Arr (w.setCell ⟨g, j, none⟩ (.int .u32 x)) g T n (xs.set j x) := by
  refine ⟨by rw [List.length_set, h.len], ?_⟩
  rw [heap_setCell_at h.blk]
  congr 2
  simp [nums, List.map_set]
theorem Arr.other {w : World} {g T n : Nat} {xs : List Int} (h : Arr w g T n xs) {a : Addr} (hne : g ≠ a.block) (v : Value) : Arr (w.setCell a v) g T n xs :=
  ⟨h.len, by rw [Below.heap_setCell _ _ _ _ hne]; exact h.blk⟩
theorem Arr.drew {w : World} {g T n : Nat} {xs : List Int} (h : Arr w g T n xs) : Arr w.drew g T n xs := ⟨h.len, h.blk⟩
theorem Arr.drewN {w : World} {g T n : Nat} {xs : List Int} (h : Arr w g T n xs) (m : Nat) : Arr (w.drewN m) g T n xs := ⟨h.len, h.blk⟩
theorem Arr.lt {w : World} {g T n : Nat} {xs : List Int} (h : Arr w g T n xs) : g < w.heap.size := (Array.getElem?_eq_some_iff.1 h.blk).1
theorem Arr.below {w w1 : World} {g T n : Nat} {xs : List Int} (h : Arr w g T n xs) (hb : Below w.heap.size w w1) : Arr w1 g T n xs :=
  ⟨h.len, by rw [hb.block g h.lt]; exact h.blk⟩
theorem Arr.new (w : World) (T n : Nat) (xs : List Int) (cs : Array Value) (hl : xs.length = n) (hc : cs = (nums .u32 xs).toArray) : Arr (w.alloc (.cells cs T)) w.heap.size T n xs :=
  ⟨hl, by rw [hc]; exact heap_alloc_new w _⟩
theorem Arr.old {w : World} {g T n : Nat} {xs : List Int} (h : Arr w g T n xs) (o : Obj) : Arr (w.alloc o) g T n xs := h.below (Below.refl _ _ |>.alloc (Nat.le_refl _) o)

/-! ### The words -/
def xr (a b : Int) : Int := Go.bits .xor .u32 a b
def wordB (bs : List Int) (t : Nat) : Int :=
  Go.bits .or .u32 (Go.bits .or .u32 (Go.bits .or .u32 (rd bs (4 * (t : Int)) % 4294967296 * 16777216 % 4294967296) (rd bs (4 * (t : Int) + 1) % 4294967296 * 65536 % 4294967296)) (rd bs (4 * (t : Int) + 2) % 4294967296 * 256 % 4294967296)) (rd bs (4 * (t : Int) + 3) % 4294967296)
def sig0 (y : Int) : Int := Go.bits .xor .u32 (Go.bits .xor .u32 (y / 8) (rotr y 7)) (rotr y 18)
def sig1 (x : Int) : Int := Go.bits .xor .u32 (Go.bits .xor .u32 (x / 1024) (rotr x 17)) (rotr x 19)
def nextW (ws : List Int) (t : Nat) : Int := (sig1 (rd ws ((t - 2 : Nat) : Int)) + rd ws ((t - 7 : Nat) : Int) + sig0 (rd ws ((t - 15 : Nat) : Int)) + rd ws ((t - 16 : Nat) : Int)) % 4294967296
def wsAt (bs : List Int) : Nat → List Int
  | 0 => List.replicate 64 0
  | t + 1 => (wsAt bs t).set t (if t < 16 then wordB bs t else nextW (wsAt bs t) t)
theorem wsAt_length (bs : List Int) (t : Nat) : (wsAt bs t).length = 64 := by
  induction t with
  | zero => simp [wsAt]
  | succ t ih => rw [wsAt, List.length_set, ih]
def KK : List Int := [0x428a2f98, 0x71374491, 0xb5c0fbcf, 0xe9b5dba5, 0x3956c25b, 0x59f111f1, 0x923f82a4, 0xab1c5ed5, 0xd807aa98, 0x12835b01, 0x243185be, 0x550c7dc3, 0x72be5d74, 0x80deb1fe, 0x9bdc06a7, 0xc19bf174, 0xe49b69c1, 0xefbe4786, 0x0fc19dc6, 0x240ca1cc, 0x2de92c6f, 0x4a7484aa, 0x5cb0a9dc, 0x76f988da, 0x983e5152, 0xa831c66d, 0xb00327c8, 0xbf597fc7, 0xc6e00bf3, 0xd5a79147, 0x06ca6351, 0x14292967, 0x27b70a85, 0x2e1b2138, 0x4d2c6dfc, 0x53380d13, 0x650a7354, 0x766a0abb, 0x81c2c92e, 0x92722c85, 0xa2bfe8a1, 0xa81a664b, 0xc24b8b70, 0xc76c51a3, 0xd192e819, 0xd6990624, 0xf40e3585, 0x106aa070, 0x19a4c116, 0x1e376c08, 0x2748774c, 0x34b0bcb5, 0x391c0cb3, 0x4ed8aa4a, 0x5b9cca4f, 0x682e6ff3, 0x748f82ee, 0x78a5636f, 0x84c87814, 0x8cc70208, 0x90befffa, 0xa4506ceb, 0xbef9a3f7, 0xc67178f2]
def kv : Array Value := (nums .u32 KK).toArray
/-- The first sum of a round; the second. -/
def fstV (v : List Int) (k x : Int) : Int := (rd v 7 + tri (rd v 4) 6 11 25 + Go.bits .xor .u32 (Go.bits .and .u32 (rd v 4) (rd v 5)) (Go.bits .and .u32 (Go.bits .xor .u32 IntKind.u32.max (rd v 4)) (rd v 6)) + k + x) % 4294967296
def sndV (v : List Int) : Int := (tri (rd v 0) 2 13 22 + Go.bits .xor .u32 (Go.bits .xor .u32 (Go.bits .and .u32 (rd v 0) (rd v 1)) (Go.bits .and .u32 (rd v 0) (rd v 2))) (Go.bits .and .u32 (rd v 1) (rd v 2))) % 4294967296
def rndV (v : List Int) (k x : Int) : List Int := [(fstV v k x + sndV v) % 4294967296, rd v 0, rd v 1, rd v 2, (rd v 3 + fstV v k x) % 4294967296, rd v 4, rd v 5, rd v 6]
def vsAt (ss ws : List Int) : Nat → List Int
  | 0 => [rd ss 0, rd ss 1, rd ss 2, rd ss 3, rd ss 4, rd ss 5, rd ss 6, rd ss 7]
  | t + 1 => rndV (vsAt ss ws t) (rd KK (t : Int)) (rd ws (t : Int))
theorem vsAt_length (ss ws : List Int) (t : Nat) : (vsAt ss ws t).length = 8 := by cases t <;> rfl
def outV (ss v : List Int) (i : Nat) : Int := (rd ss (i : Int) + rd v (i : Int)) % 4294967296
def mixS (ss bs : List Int) : List Int := (List.range 8).map (outV ss (vsAt ss (wsAt bs 64) 64))
/-- The first i of them in the place of what stood there. -/
def putTo (cs : Array Value) (ys : List Int) (i : Nat) : Array Value := (nums .u32 (ys.take i) ++ cs.toList.drop i).toArray
theorem putTo_at {cs : Array Value} {ys : List Int} {i : Nat} (j : Nat) (hj : i ≤ j) (hi : i ≤ ys.length) : (putTo cs ys i)[j]? = cs[j]? := by
  have hl : (nums .u32 (ys.take i)).length = i := by simp [nums]; omega
  simp only [putTo, List.getElem?_toArray]
  rw [List.getElem?_append_right (by omega), hl, List.getElem?_drop, show i + (j - i) = j by omega]
  simp
theorem putTo_succ {cs : Array Value} {ys : List Int} {i : Nat} (hi : i < ys.length) (hc : i < cs.size) : (putTo cs ys i).setIfInBounds i (.int .u32 ys[i]) = putTo cs ys (i + 1) := by
  have hl : (nums .u32 (ys.take i)).length = i := by simp [nums]; omega
  have hd : cs.toList.drop i = cs.toList[i]'(by simpa using hc) :: cs.toList.drop (i + 1) := List.drop_eq_getElem_cons (by simpa using hc)
  simp only [putTo, List.setIfInBounds_toArray]
  congr 1
  rw [List.set_append_right _ _ (by omega), hl, Nat.sub_self, hd, List.set_cons_zero, List.take_succ_eq_append_getElem hi]
  simp only [nums, List.map_append, List.map_cons, List.map_nil, List.append_assoc, List.cons_append, List.nil_append]
theorem kv_size : kv.size = 64 := by decide +kernel
theorem kv_one : kv.all (·.oneCell') = true := by decide +kernel
set_option maxRecDepth 100000 in
theorem const_calls (w : World) : Calls Try.prog 77 #[] w fun e w' => e = .returned (.agg kv) ∧ Below w.heap.size w w' := by
  have hs := kv_size
  have h1 := kv_one
  have hi : (Try.prog.info? 84).map (·.size) = some 64 := by kernel_rfl
  go_enter Try.func77, Try.ntmps77
  go_wp2_with (first | (refine wpList_buildFlatArrTo rfl 84 72 64 _ rfl .u32 KK (some 1) rfl (by as_aux_lemma => kernel_rfl) (by as_aux_lemma => kernel_rfl) (by as_aux_lemma => kernel_rfl) (by as_aux_lemma => kernel_rfl) ?_; rw [show (KK.map (Value.int .u32)).toArray = kv from rfl]) | (refine wpList_store_row rfl 84 (.tmp 0) (.tmp 1) rfl w.heap.size kv rfl rfl 84 _ (heap_alloc_new w _) ?h1 ?h2 kv_one ?_; (case h1 => rw [hs]; exact hi); (case h2 => rw [hs]; rfl); rw [World.setRow_alloc_new]))
  refine bodyPost_ret (v := .agg kv) (results_cell_row (by rfl) _ _ w.heap.size 84 kv (0, 0) _ (by rfl) (heap_alloc_new w _) Try.underlying84 (by rfl) (by rw [hs]; exact hi)) rfl ⟨rfl, (Below.refl _ _).alloc (Nat.le_refl _) _⟩
theorem k_at (t : Nat) (h : t < 64) (w : World) : (Instr.index 84 (.agg kv) (.int .i64 (t : Int))).run Try.prog w = .ok (.int .u32 (rd KK (t : Int))) w := by
  have hs : kv.size = 64 := kv_size
  have hk : KK.length = 64 := by decide +kernel
  have hv : kv[t]? = some (.int .u32 (rd KK (t : Int))) := by
    rw [rd, Int.toNat_natCast]
    simp [kv, nums, List.getElem?_eq_getElem (show t < KK.length by omega), List.getD_eq_getElem?_getD]
  obtain ⟨i, hi, hz⟩ := Option.map_eq_some_iff.1 (show (Try.prog.info? 72).map (fun i => i.size) = some 1 by kernel_rfl)
  simp [Instr.index, asIntOf, run_underlying Try.underlying84, sizeOf, typeInfo, hi, hz, part, hv]
  intro h64
  omega
end Go.Proofs.Ytffcegbcjkhnoaa.PC
