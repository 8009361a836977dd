/- The contract of chandleryref03.Mix: for eight words and 64 bytes it gives the words that sha256.mix makes. -/
import Derived.Test.YtffcegbcjkhnoaaMRef
import Derived.Test.YtffcegbcjkhnoaaGRefPad
namespace Go.Proofs.Ytffcegbcjkhnoaa.PC
open Go.RowKit Go.Proofs.YtffcegbcjkhnoaaW.PrintWords Go.Proofs.YtffcegbcjkhnoaaW.PrintLast Go.Proofs.YtffcegbcjkhnoaaW.PrintMore
set_option linter.unusedVariables false
set_option linter.unusedSimpArgs false
def okW (l : List Int) : Bool := l.all fun x => decide (0 ≤ x ∧ x < 4294967296)
def okB (l : List Int) : Bool := l.all fun x => decide (0 ≤ x ∧ x < 256)
theorem okW_U {l : List Int} (h : okW l = true) : ∀ x ∈ l, U x := by
  intro x hx
  have := List.all_eq_true.1 h x hx
  exact (of_decide_eq_true this : _ ∧ _)
theorem okB_U {l : List Int} (h : okB l = true) : ∀ x ∈ l, U8 x := by
  intro x hx
  have := List.all_eq_true.1 h x hx
  exact (of_decide_eq_true this : _ ∧ _)
def chandleryref03_Mix.f (l0 : List Int) (l1 : List Int) : Option (List Int) := if l0.length = 8 ∧ l1.length = 64 ∧ okW l0 = true ∧ okB l1 = true then some (mixS l0 l1) else none
theorem rotq {x : Int} (hx : U x) (n : Int) (h0 : 0 < n) (h1 : n < 32) (w : World) : Calls Try.prog 66 #[.int .i64 x, .int .i64 n] w fun e w' => e = .returned (.int .i64 (rotr x n)) ∧ Drawn0 w w' := by
  obtain ⟨m, rfl⟩ := Int.eq_ofNat_of_zero_le (Int.le_of_lt h0)
  exact chandleryref03_rot.calls 40 x m _ w (rot_u hx m (by omega) (by omega))
theorem xorq {x y z : Int} (hx : U x) (hy : U y) (hz : U z) (w : World) : Calls Try.prog 65 #[.int .i64 x, .int .i64 y, .int .i64 z] w fun e w' => e = .returned (.int .i64 (Go.bits .xor .u32 (Go.bits .xor .u32 x y) z)) ∧ Drawn0 w w' :=
  chandleryref03_xor.calls 40 x y z _ w (xor_u hx hy hz)
theorem chq {x y z : Int} (hx : U x) (hy : U y) (hz : U z) (w : World) : Calls Try.prog 68 #[.int .i64 x, .int .i64 y, .int .i64 z] w fun e w' => e = .returned (.int .i64 (Go.bits .xor .u32 (Go.bits .and .u32 x y) (Go.bits .and .u32 (Go.bits .xor .u32 IntKind.u32.max x) z))) ∧ Drawn0 w w' :=
  chandleryref03_choose.calls 40 x y z _ w (choose_u hx hy hz)
theorem majq {x y z : Int} (hx : U x) (hy : U y) (hz : U z) (w : World) : Calls Try.prog 69 #[.int .i64 x, .int .i64 y, .int .i64 z] w fun e w' => e = .returned (.int .i64 (Go.bits .xor .u32 (Go.bits .xor .u32 (Go.bits .and .u32 x y) (Go.bits .and .u32 x z)) (Go.bits .and .u32 y z))) ∧ Drawn0 w w' :=
  chandleryref03_most.calls 40 x y z _ w (most_u hx hy hz)
theorem drawn_trans {w w1 w2 : World} (h : Drawn0 w w1) (h2 : Drawn0 w1 w2) : Drawn0 w w2 := by
  obtain ⟨a, rfl⟩ := h
  obtain ⟨b, rfl⟩ := h2
  exact ⟨_, World.drewN_drewN _ _ _⟩
theorem drawn2 {w : World} {a : Nat} {w' : World} (h : Drawn0 (w.drewN a) w') : Drawn0 w w' := by
  obtain ⟨b, rfl⟩ := h
  exact ⟨_, World.drewN_drewN _ _ _⟩
theorem drawn_below {B : Nat} {w0 w w' : World} (h : Below B w0 w) (hd : Drawn0 w w') : Below B w0 w' := by
  obtain ⟨b, rfl⟩ := hd
  exact pw_below_drewN h b
theorem quoU {x : Int} (h : U x) (k : Int) (h0 : 0 < k) : wrap64 (Int.tdiv x k) = x / k := by
  obtain ⟨n, rfl, hn⟩ := h.nat
  obtain ⟨m, rfl⟩ := Int.eq_ofNat_of_zero_le (Int.le_of_lt h0)
  rw [Int.tdiv_eq_ediv_of_nonneg (by omega), show (n : Int) / (m : Int) = ((n / m : Nat) : Int) from rfl]
  have := Nat.div_le_self n m
  generalize n / m = q at *
  exact w64n (by omega) (by omega)
theorem U_quo {x : Int} (h : U x) (k : Int) (h0 : 0 < k) : U (x / k) := by
  obtain ⟨m, rfl⟩ := Int.eq_ofNat_of_zero_le (Int.le_of_lt h0)
  exact U_div h m (by omega)
theorem add4U {a b c d : Int} (ha : U a) (hb : U b) (hc : U c) (hd : U d) : Int.tmod (wrap64 (wrap64 (wrap64 (a + b) + c) + d)) 4294967296 = (a + b + c + d) % 4294967296 := by
  obtain ⟨h1, h2⟩ := ha
  obtain ⟨h3, h4⟩ := hb
  obtain ⟨h5, h6⟩ := hc
  obtain ⟨h7, h8⟩ := hd
  rw [w64n (n := a + b) (by omega) (by omega), w64n (n := a + b + c) (by omega) (by omega), w64n (n := a + b + c + d) (by omega) (by omega), Int.tmod_eq_emod_of_nonneg (by omega)]
/-- Block g holds these eight numbers and nothing else. -/
structure Arr8 (w : World) (g : Nat) (xs : List Int) : Prop where
  len : xs.length = 8
  blk : w.heap[g]? = some (.cells (nums .i64 xs).toArray 55 (0, 0))
theorem Arr8.cell {w : World} {g : Nat} {xs : List Int} (h : Arr8 w g xs) (j : Nat) (hj : j < 8) : w.cell? ⟨g, j, none⟩ = some (.int .i64 (rd xs (j : Int))) := by
  have hl : j < xs.length := by rw [h.len]; exact hj
  rw [rd, Int.toNat_natCast]
  simp [World.cell?, h.blk, nums, List.getElem?_eq_getElem hl, List.getD_eq_getElem?_getD]
theorem Arr8.free {w : World} {g : Nat} {xs : List Int} (h : Arr8 w g xs) (j : Nat) : w.frozen? ⟨g, j, none⟩ = false := by
  simp [World.frozen?, h.blk]
theorem Arr8.put {w : World} {g : Nat} {xs : List Int} (h : Arr8 w g xs) (j : Nat) (x : Int) : Arr8 (w.setCell ⟨g, j, none⟩ (.int .i64 x)) g (xs.set j x) := by
  refine ⟨by rw [List.length_set, h.len], ?_⟩
  rw [heap_setCell_at h.blk]
  congr 2
  simp [nums, List.map_set]
theorem Arr8.drew {w : World} {g : Nat} {xs : List Int} (h : Arr8 w g xs) : Arr8 w.drew g xs := ⟨h.len, h.blk⟩
theorem Arr8.drewN {w : World} {g : Nat} {xs : List Int} (h : Arr8 w g xs) (m : Nat) : Arr8 (w.drewN m) g xs := ⟨h.len, h.blk⟩
theorem Arr8.lt {w : World} {g : Nat} {xs : List Int} (h : Arr8 w g xs) : g < w.heap.size := (Array.getElem?_eq_some_iff.1 h.blk).1
theorem Arr8.below {w w1 : World} {g : Nat} {xs : List Int} (h : Arr8 w g xs) (hb : Below w.heap.size w w1) : Arr8 w1 g xs :=
  ⟨h.len, by rw [hb.block g h.lt]; exact h.blk⟩
def inV (l : List Int) (i : Nat) : List Int := l.take i ++ List.replicate (8 - i) 0
theorem inV_length (l : List Int) (i : Nat) (h : i ≤ 8) (hl : l.length = 8) : (inV l i).length = 8 := by
  rw [inV, List.length_append, List.length_take, List.length_replicate]
  omega
theorem eight (l : List Int) (h : l.length = 8) : ∃ a b c d e f g i : Int, l = [a, b, c, d, e, f, g, i] := by
  match l, h with
  | [a, b, c, d, e, f, g, i], _ => exact ⟨a, b, c, d, e, f, g, i, rfl⟩
theorem inV_put (l : List Int) (hl : l.length = 8) (i : Nat) (h : i < 8) : (inV l i).set i (rd l (i : Int)) = inV l (i + 1) := by
  obtain ⟨a, b, c, d, e, f, g, k, rfl⟩ := eight l hl
  match i, h with
  | 0, _ => rfl
  | 1, _ => rfl
  | 2, _ => rfl
  | 3, _ => rfl
  | 4, _ => rfl
  | 5, _ => rfl
  | 6, _ => rfl
  | 7, _ => rfl
theorem inV_all (l : List Int) (hl : l.length = 8) (ws : List Int) : inV l 8 = vsAt l ws 0 := by
  obtain ⟨a, b, c, d, e, f, g, k, rfl⟩ := eight l hl
  rfl
def shV (V : List Int) (i : Nat) : List Int := V.take (i + 1) ++ (V.drop i).take (7 - i)
theorem shV_top (V : List Int) (hl : V.length = 8) : shV V 7 = V := by
  obtain ⟨a, b, c, d, e, f, g, k, rfl⟩ := eight V hl
  rfl
theorem shV_put (V : List Int) (hl : V.length = 8) (i : Nat) (h : i < 7) : (shV V (i + 1)).set (i + 1) (rd (shV V (i + 1)) (i : Int)) = shV V i := by
  obtain ⟨a, b, c, d, e, f, g, k, rfl⟩ := eight V hl
  match i, h with
  | 0, _ => rfl
  | 1, _ => rfl
  | 2, _ => rfl
  | 3, _ => rfl
  | 4, _ => rfl
  | 5, _ => rfl
  | 6, _ => rfl
theorem shV_four (V : List Int) (hl : V.length = 8) : rd (shV V 0) 4 = rd V 3 := by
  obtain ⟨a, b, c, d, e, f, g, k, rfl⟩ := eight V hl
  rfl
theorem shV_end (V : List Int) (hl : V.length = 8) (x y : Int) : ((shV V 0).set 4 x).set 0 y = [y, rd V 0, rd V 1, rd V 2, x, rd V 4, rd V 5, rd V 6] := by
  obtain ⟨a, b, c, d, e, f, g, k, rfl⟩ := eight V hl
  rfl
theorem add5U {a b c d e : Int} (ha : U a) (hb : U b) (hc : U c) (hd : U d) (he : U e) : Int.tmod (wrap64 (wrap64 (wrap64 (wrap64 (a + b) + c) + d) + e)) 4294967296 = (a + b + c + d + e) % 4294967296 := by
  obtain ⟨h1, h2⟩ := ha
  obtain ⟨h3, h4⟩ := hb
  obtain ⟨h5, h6⟩ := hc
  obtain ⟨h7, h8⟩ := hd
  obtain ⟨h9, h10⟩ := he
  rw [w64n (n := a + b) (by omega) (by omega), w64n (n := a + b + c) (by omega) (by omega), w64n (n := a + b + c + d) (by omega) (by omega), w64n (n := a + b + c + d + e) (by omega) (by omega), Int.tmod_eq_emod_of_nonneg (by omega)]
theorem add2U {a b : Int} (ha : U a) (hb : U b) : Int.tmod (wrap64 (a + b)) 4294967296 = (a + b) % 4294967296 := by
  obtain ⟨h1, h2⟩ := ha
  obtain ⟨h3, h4⟩ := hb
  rw [w64n (n := a + b) (by omega) (by omega), Int.tmod_eq_emod_of_nonneg (by omega)]
theorem mixS_take (ss bs : List Int) (i : Nat) (h : i < 8) : (mixS ss bs).take i ++ [outV ss (vsAt ss (wsAt bs 64) 64) i] = (mixS ss bs).take (i + 1) := by
  rw [List.take_succ_eq_append_getElem (by rw [mixS_length]; exact h), mixS_at ss bs i h]
set_option maxRecDepth 100000 in
set_option maxHeartbeats 2000000 in
theorem chandleryref03_Mix.calls (A0 : Option Addr) (c0 : Nat) (l0 : List Int) (A1 : Option Addr) (c1 : Nat) (l1 : List Int) (r : List Int) (w : World) (hr0 : Kd.C (Kd.int .i64) w A0 l0.length l0) (hc0 : l0.length ≤ c0) (hr1 : Kd.C (Kd.int .u8) w A1 l1.length l1) (hc1 : l1.length ≤ c1) (h : chandleryref03_Mix.f l0 l1 = some r) :
    Calls Try.prog 48 #[.slice A0 l0.length c0, .slice A1 l1.length c1] w fun e w' => ∃ v0_ : Value, e = .returned (v0_) ∧ Kd.R (Kd.int .i64) 3 w' w.heap.size (fun _ => True) v0_ r ∧ Below w.heap.size w w' := by
  unfold chandleryref03_Mix.f at h
  by_cases hn : l0.length = 8 ∧ l1.length = 64 ∧ okW l0 = true ∧ okB l1 = true
  · rw [if_pos hn, Option.some.injEq] at h
    subst h
    obtain ⟨h8, h64, hw0, hb0⟩ := hn
    have HU := Aside0.mk (okW_U hw0)
    have HU8 := Aside0.mk (okB_U hb0)
    clear hw0 hb0
    have HR0 := Aside0.mk hr0
    have HR1 := Aside0.mk hr1
    have HC0 := Aside0.mk hc0
    have HC1 := Aside0.mk hc1
    clear hr0 hr1 hc0 hc1
    have L8 := Aside0.mk h8
    have L64 := Aside0.mk h64
    clear h8 h64
    go_enter Try.func48, Try.ntmps48
    go_wp2_with fail
    go_loopw [5, 6] (fun v x wr => ∃ (t : Nat) (A : Option Addr) (c : Nat), t ≤ 64 ∧ x = .int .i64 (t : Int) ∧ v = .slice A t c ∧ Aside0 (Kd.R (Kd.int .i64) 3 wr w.heap.size (fun _ => True) v (wsT l1 t)) ∧ Aside0 (Below w.heap.size w wr)) (fun _ v _ => 64 - (intOf v).toNat)
    case atStart => exact ⟨0, none, 0, by omega, rfl, rfl, ⟨Kd.R_nil _ _ _ _ _⟩, ⟨Below.refl _ _⟩⟩
    case round =>
      obtain ⟨t, A, c, ht, rfl, rfl, HO, HB⟩ := hrel
      by_cases hlt : t < 64
      · by_cases h16 : t < 16
        · have L64' := L64.out
          obtain ⟨i0, hi0, _, hsz, _⟩ := info_parts info5
          have hC : Kd.C (Kd.int .u8) wr A1 l1.length l1 := Kd.C_below HR1.out HB.out
          have q0 : (0 : Int) ≤ 4 * (t : Int) := by omega
          have q1 : 4 * (t : Int) ≤ ((l1.length : Int) : Int) := by omega
          have hcut := cut_from (P := Try.prog) 22 5 .i64 Try.underlying22 hi0 1 hsz A1 l1.length c1 (4 * (t : Int)) q0 q1
          have hrd := Kd.C_drop (m := (4 * (t : Int)).toNat) (c := c1) hC (by omega) HC1.out
          rw [show (4 * (t : Int)).toNat = 4 * t by omega] at hcut hrd
          obtain ⟨A2, hA2⟩ : ∃ A2, A2 = (if c1 = 4 * t then A1 else (A1 : Option Addr).map (·.add (4 * t * 1))) := ⟨_, rfl⟩
          obtain ⟨c2, hc2⟩ : ∃ c2, c2 = c1 - 4 * t := ⟨_, rfl⟩
          obtain ⟨y, hyd⟩ : ∃ y, y = l1.drop (4 * t) := ⟨_, rfl⟩
          have hy : y.length = l1.length - 4 * t := by rw [hyd]; exact List.length_drop
          rw [← hyd] at hrd
          replace hrd : Kd.C (Kd.int .u8) wr A2 y.length y := by rw [hA2]; exact hrd
          rw [← hy, ← hA2, ← hc2] at hcut
          have hroom : y.length ≤ c2 := by rw [hy, hc2]; exact Nat.sub_le_sub_right HC1.out _
          have HRD := Aside0.mk hrd
          have HRM := Aside0.mk hroom
          have HW := Aside0.mk (show chandleryref03_word.f y = some (wordB l1 t) by rw [hyd]; exact word_u l1 HU8.out L64.out t h16)
          have e4 : wrap64 (4 * (t : Int)) = 4 * (t : Int) := w64n (by omega) (by omega)
          clear hrd hroom hC hA2 hc2 hy hi0 hsz L64' hyd
          go_wp2_with fail
          refine (chandleryref03_word.calls A2 c2 y (wordB l1 t) wr HRD.out HRM.out HW.out).mono ?_
          rintro e w' ⟨rfl, nd, rfl⟩
          clear HRD HRM hcut e4
          have HO1 := Aside0.mk (Kd.R_drewN HO.out nd)
          have HB1 := Aside0.mk (pw_below_drewN HB.out nd)
          clear HO HB
          generalize wr.drewN nd = w1 at HO1 HB1 ⊢
          go_wp2_with ((with_reducible refine gate_builtin (b := .append) (xs := #[.tmp 26, .tmp 32]) rfl ?_); at_builtin; refine Kd.R_append (Kd.int .i64) (w0 := w) w.heap.size rfl (.tmp 26) (.tmp 32) 45 3 (.int .i64 0) 8 rfl Try.underlying45 info3 rfl (by decide) (by omega) (.slice A t c) (wsT l1 t) (wordB l1 t) [.int .i64 (wordB l1 t)] (fun _ => True) (fun _ => False) rfl rfl ?aP (fun _ hk => hk.elim) ?aF ?aO ?aB ?aS ?aL ?_; (case aP => exact rfl); (case aB => exact HB1.out); (case aF => exact (fun _ _ => trivial)); (case aO => exact HO1.out); (case aS => exact HB1.out.size); (case aL => rw [wsT_length l1 t ht]; omega); intro v6 w6 ho hb hg hat; rw [show wsT l1 t ++ [wordB l1 t] = wsT l1 (t + 1) by rw [← wsT_succ l1 t hlt, if_pos h16]] at ho; obtain ⟨A3, c3, e6⟩ := Kd.R_slice ho; rw [wsT_length l1 (t + 1) hlt] at e6; subst e6; have HO2 := Aside0.mk ho; have HB2 := Aside0.mk hb; clear HB1 HO1 ho hb hg hat)
          go_roundw
          case rel => exact ⟨t + 1, A3, c3, by omega, by go_num, rfl, HO2, HB2⟩
          case measure => simp [intOf]; omega
        · have i0 : (2 : Int) ≤ t := by omega
          have hread := (Kd.R_reads' HO.out).2
          have hcell : ∀ j : Nat, j < t → ∃ ad, A = some ad ∧ wr.cell? (ad.add j) = some (.int .i64 (rd (wsAt l1 t) (j : Int))) := fun j hj => by
            obtain ⟨ad, e, hx⟩ := Kd.at_int hread.2 (j : Int) (by omega) (by rw [wsT_length l1 t ht] at *; omega)
            exact ⟨ad, e, by rw [← wsT_rd l1 t j hj]; exact hx⟩
          obtain ⟨ad, rfl, _⟩ := hcell 0 (by omega)
          replace hcell : ∀ j : Nat, j < t → wr.cell? (ad.add j) = some (.int .i64 (rd (wsAt l1 t) (j : Int))) := fun j hj => by
            obtain ⟨ad2, e, hx⟩ := hcell j hj
            cases e
            exact hx
          have c2 := hcell (t - 2) (by omega)
          have c7 := hcell (t - 7) (by omega)
          have c15 := hcell (t - 15) (by omega)
          have c16 := hcell (t - 16) (by omega)
          have X2 := Aside0.mk (U_rd (U_wsAt l1 t) ((t - 2 : Nat) : Int))
          have X7 := Aside0.mk (U_rd (U_wsAt l1 t) ((t - 7 : Nat) : Int))
          have X15 := Aside0.mk (U_rd (U_wsAt l1 t) ((t - 15 : Nat) : Int))
          have X16 := Aside0.mk (U_rd (U_wsAt l1 t) ((t - 16 : Nat) : Int))
          have HNx := Aside0.mk (show nextW (wsAt l1 t) t = (sig1 (rd (wsAt l1 t) ((t - 2 : Nat) : Int)) + rd (wsAt l1 t) ((t - 7 : Nat) : Int) + sig0 (rd (wsAt l1 t) ((t - 15 : Nat) : Int)) + rd (wsAt l1 t) ((t - 16 : Nat) : Int)) % 4294967296 from rfl)
          generalize rd (wsAt l1 t) ((t - 2 : Nat) : Int) = x2 at c2 X2 HNx
          generalize rd (wsAt l1 t) ((t - 7 : Nat) : Int) = x7 at c7 X7 HNx
          generalize rd (wsAt l1 t) ((t - 15 : Nat) : Int) = x15 at c15 X15 HNx
          generalize rd (wsAt l1 t) ((t - 16 : Nat) : Int) = x16 at c16 X16 HNx
          clear hcell hread
          have e2 : wrap64 ((t : Int) - 2) = (t : Int) - 2 := w64n (by omega) (by omega)
          have e15 : wrap64 ((t : Int) - 15) = (t : Int) - 15 := w64n (by omega) (by omega)
          have r15 : (15 : Int) ≤ t := by omega
          have n2 : ((t : Int) - 2).toNat = t - 2 := by omega
          have n15 : ((t : Int) - 15).toNat = t - 15 := by omega
          have d2 := quoU X2.out 1024 (by decide)
          have d15 := quoU X15.out 8 (by decide)
          go_wp2_with fail
          refine (rotq X2.out 17 (by decide) (by decide) _).mono ?_
          rintro e w1 ⟨rfl, hd1⟩
          go_wp2_with fail
          refine (rotq X2.out 19 (by decide) (by decide) _).mono ?_
          rintro e w2 ⟨rfl, hd2⟩
          replace hd2 := drawn_trans hd1 hd2
          clear hd1
          go_wp2_with fail
          refine (xorq (U_quo X2.out 1024 (by decide)) (U_rotr _ _) (U_rotr _ _) _).mono ?_
          rintro e w3 ⟨rfl, hd3⟩
          replace hd3 := drawn_trans hd2 hd3
          clear hd2
          go_wp2_with fail
          refine (rotq X15.out 7 (by decide) (by decide) _).mono ?_
          rintro e w4 ⟨rfl, hd4⟩
          replace hd4 := drawn_trans hd3 hd4
          clear hd3
          go_wp2_with fail
          refine (rotq X15.out 18 (by decide) (by decide) _).mono ?_
          rintro e w5 ⟨rfl, hd5⟩
          replace hd5 := drawn_trans hd4 hd5
          clear hd4
          go_wp2_with fail
          refine (xorq (U_quo X15.out 8 (by decide)) (U_rotr _ _) (U_rotr _ _) _).mono ?_
          rintro e w6 ⟨rfl, hd6⟩
          replace hd6 := drawn_trans hd5 hd6
          clear hd5
          rw [show Go.bits .xor .u32 (Go.bits .xor .u32 (x15 / 8) (rotr x15 7)) (rotr x15 18) = sig0 x15 from rfl]
          obtain ⟨nd, rfl⟩ := hd6
          have HO1 := Aside0.mk (Kd.R_drewN HO.out nd)
          have HB1 := Aside0.mk (pw_below_drewN HB.out nd)
          replace c7 : (wr.drewN nd).cell? (ad.add (t - 7)) = some (.int .i64 x7) := c7
          replace c16 : (wr.drewN nd).cell? (ad.add (t - 16)) = some (.int .i64 x16) := c16
          clear HO HB c2 c15 d2 d15 e2 e15 r15 n2 n15
          generalize wr.drewN nd = w1 at HO1 HB1 c7 c16 ⊢
          go_upto_region 11 with fail
          have e7 : wrap64 ((t : Int) - 7) = (t : Int) - 7 := w64n (by omega) (by omega)
          have e16 : wrap64 ((t : Int) - 16) = (t : Int) - 16 := w64n (by omega) (by omega)
          have e7' : IntKind.i64.wrap ((t : Int) - 7) = (t : Int) - 7 := by rw [i64_w]; exact e7
          have e16' : IntKind.i64.wrap ((t : Int) - 16) = (t : Int) - 16 := by rw [i64_w]; exact e16
          have q7 : (t : Int) - 7 < t := by omega
          have q16 : (t : Int) - 16 < t := by omega
          have r7 : (7 : Int) ≤ t := by omega
          have r16 : (16 : Int) ≤ t := by omega
          have n7 : ((t : Int) - 7).toNat = t - 7 := by omega
          have n16 : ((t : Int) - 16).toNat = t - 16 := by omega
          have hsum := add4U (U_bits .xor (Go.bits .xor .u32 (x2 / 1024) (rotr x2 17)) (rotr x2 19)) X7.out (U_sig0 x15) X16.out
          rw [show (Go.bits .xor .u32 (Go.bits .xor .u32 (x2 / 1024) (rotr x2 17)) (rotr x2 19) + x7 + sig0 x15 + x16) % 4294967296 = nextW (wsAt l1 t) t from HNx.out.symm] at hsum
          generalize sig0 x15 = s15 at hsum ⊢
          generalize Go.bits .xor .u32 (Go.bits .xor .u32 (x2 / 1024) (rotr x2 17)) (rotr x2 19) = s2 at hsum ⊢
          generalize hnx : nextW (wsAt l1 t) t = nx at hsum ⊢
          have HNX := Aside0.mk hnx
          clear HNx hnx
          refine start_ (n := 20) (S := fun w' => w'.cell? (ad.add (t - 7)) = some (.int .i64 x7) ∧ w'.cell? (ad.add (t - 16)) = some (.int .i64 x16)) (ds := [18]) #[false, false, false, false, false, false, false, false, false, false, false, false, false, false, false, false, false, false, false, false] (by kernel_rfl) rfl rfl ⟨c7, c16⟩ (fun hHeld => ?_)
          have HO2 := Aside0.mk (Kd.R_drew HO1.out)
          have HB2 := Aside0.mk (below_drew1 HB1.out)
          clear HO1 HB1 c7 c16
          generalize w1.drew = w2 at HO2 HB2 hHeld ⊢
          refine pure_ (i := 0) (N := some 58) (v := ?_) (a' := ?_) #[true, false, false, false, false, false, false, false, false, false, false, false, false, false, false, false, false, false, false, false] rfl rfl (by kernel_rfl) (fun _ _ _ h => h) (Or.inl ⟨by rfl, ?_⟩) ?_ ?_
          rotate_left
          · intro w'
            go_simp
            with_reducible rfl
          rotate_left
          · simp only [Act.put, List.setIfInBounds_toArray, List.set_cons_zero, List.set_cons_succ, i64_w, i32_w]
            rfl
          refine pure_ (i := 1) (N := some 59) (v := ?_) (a' := ?_) #[true, true, false, false, false, false, false, false, false, false, false, false, false, false, false, false, false, false, false, false] rfl rfl (by kernel_rfl) (fun _ _ _ h => h) (Or.inl ⟨by rfl, ?_⟩) ?_ ?_
          rotate_left
          · intro w'
            go_simp
            with_reducible rfl
          rotate_left
          · simp only [Act.put, List.setIfInBounds_toArray, List.set_cons_zero, List.set_cons_succ, i64_w, i32_w]
            rfl
          refine pure_ (i := 2) (N := some 60) (v := ?_) (a' := ?_) #[true, true, true, false, false, false, false, false, false, false, false, false, false, false, false, false, false, false, false, false] rfl rfl (by kernel_rfl) (fun _ _ _ h => h) (Or.inl ⟨by rfl, ?_⟩) ?_ ?_
          rotate_left
          · intro w'
            go_simp
            with_reducible rfl
          rotate_left
          · simp only [Act.put, List.setIfInBounds_toArray, List.set_cons_zero, List.set_cons_succ, i64_w, i32_w]
            rfl
          refine pure_ (i := 3) (N := some 61) (v := ?_) (a' := ?_) #[true, true, true, true, false, false, false, false, false, false, false, false, false, false, false, false, false, false, false, false] rfl rfl (by kernel_rfl) (fun _ _ _ h => h) (Or.inl ⟨by rfl, ?_⟩) ?_ ?_
          rotate_left
          · intro w'
            go_simp
            with_reducible rfl
          rotate_left
          · simp only [Act.put, List.setIfInBounds_toArray, List.set_cons_zero, List.set_cons_succ, i64_w, i32_w]
            rfl
          refine pure_ (i := 4) (N := some 62) (v := ?_) (a' := ?_) #[true, true, true, true, true, false, false, false, false, false, false, false, false, false, false, false, false, false, false, false] rfl rfl (by kernel_rfl) (fun _ _ _ h => h) (Or.inl ⟨by rfl, ?_⟩) ?_ ?_
          rotate_left
          · intro w'
            go_simp
            with_reducible rfl
          rotate_left
          · simp only [Act.put, List.setIfInBounds_toArray, List.set_cons_zero, List.set_cons_succ, i64_w, i32_w]
            rfl
          refine pure_ (i := 5) (N := some 63) (v := ?_) (a' := ?_) #[true, true, true, true, true, true, false, false, false, false, false, false, false, false, false, false, false, false, false, false] rfl rfl (by kernel_rfl) (fun _ _ _ h => h) (Or.inl ⟨by rfl, ?_⟩) ?_ ?_
          rotate_left
          · intro w'
            go_simp
            with_reducible rfl
          rotate_left
          · simp only [Act.put, List.setIfInBounds_toArray, List.set_cons_zero, List.set_cons_succ, i64_w, i32_w]
            rfl
          refine take_ (i := 6) (N := some 64) (v := ?_) (a' := ?_) #[true, true, true, true, true, true, true, false, false, false, false, false, false, false, false, false, false, false, false, false] rfl rfl (by kernel_rfl) (fun _ _ _ h => h) (Or.inl ⟨by rfl, ?_⟩) hHeld ?_ ?_
          rotate_left
          · rintro w' ⟨s0, s1⟩
            go_simp
            with_reducible rfl
          rotate_left
          · simp only [Act.put, List.setIfInBounds_toArray, List.set_cons_zero, List.set_cons_succ, i64_w, i32_w]
            rfl
          refine pure_ (i := 7) (N := some 65) (v := ?_) (a' := ?_) #[true, true, true, true, true, true, true, true, false, false, false, false, false, false, false, false, false, false, false, false] rfl rfl (by kernel_rfl) (fun _ _ _ h => h) (Or.inl ⟨by rfl, ?_⟩) ?_ ?_
          rotate_left
          · intro w'
            go_simp
            with_reducible rfl
          rotate_left
          · simp only [Act.put, List.setIfInBounds_toArray, List.set_cons_zero, List.set_cons_succ, i64_w, i32_w]
            rfl
          refine pure_ (i := 8) (N := some 66) (v := ?_) (a' := ?_) #[true, true, true, true, true, true, true, true, true, false, false, false, false, false, false, false, false, false, false, false] rfl rfl (by kernel_rfl) (fun _ _ _ h => h) (Or.inl ⟨by rfl, ?_⟩) ?_ ?_
          rotate_left
          · intro w'
            go_simp
            with_reducible rfl
          rotate_left
          · simp only [Act.put, List.setIfInBounds_toArray, List.set_cons_zero, List.set_cons_succ, i64_w, i32_w]
            rfl
          refine pure_ (i := 9) (N := some 67) (v := ?_) (a' := ?_) #[true, true, true, true, true, true, true, true, true, true, false, false, false, false, false, false, false, false, false, false] rfl rfl (by kernel_rfl) (fun _ _ _ h => h) (Or.inl ⟨by rfl, ?_⟩) ?_ ?_
          rotate_left
          · intro w'
            go_simp
            with_reducible rfl
          rotate_left
          · simp only [Act.put, List.setIfInBounds_toArray, List.set_cons_zero, List.set_cons_succ, i64_w, i32_w]
            rfl
          refine pure_ (i := 10) (N := some 68) (v := ?_) (a' := ?_) #[true, true, true, true, true, true, true, true, true, true, true, false, false, false, false, false, false, false, false, false] rfl rfl (by kernel_rfl) (fun _ _ _ h => h) (Or.inl ⟨by rfl, ?_⟩) ?_ ?_
          rotate_left
          · intro w'
            go_simp
            with_reducible rfl
          rotate_left
          · simp only [Act.put, List.setIfInBounds_toArray, List.set_cons_zero, List.set_cons_succ, i64_w, i32_w]
            rfl
          refine pure_ (i := 11) (N := some 69) (v := ?_) (a' := ?_) #[true, true, true, true, true, true, true, true, true, true, true, true, false, false, false, false, false, false, false, false] rfl rfl (by kernel_rfl) (fun _ _ _ h => h) (Or.inl ⟨by rfl, ?_⟩) ?_ ?_
          rotate_left
          · intro w'
            go_simp
            with_reducible rfl
          rotate_left
          · simp only [Act.put, List.setIfInBounds_toArray, List.set_cons_zero, List.set_cons_succ, i64_w, i32_w]
            rfl
          refine pure_ (i := 12) (N := some 70) (v := ?_) (a' := ?_) #[true, true, true, true, true, true, true, true, true, true, true, true, true, false, false, false, false, false, false, false] rfl rfl (by kernel_rfl) (fun _ _ _ h => h) (Or.inl ⟨by rfl, ?_⟩) ?_ ?_
          rotate_left
          · intro w'
            go_simp
            with_reducible rfl
          rotate_left
          · simp only [Act.put, List.setIfInBounds_toArray, List.set_cons_zero, List.set_cons_succ, i64_w, i32_w]
            rfl
          refine pure_ (i := 13) (N := some 71) (v := ?_) (a' := ?_) #[true, true, true, true, true, true, true, true, true, true, true, true, true, true, false, false, false, false, false, false] rfl rfl (by kernel_rfl) (fun _ _ _ h => h) (Or.inl ⟨by rfl, ?_⟩) ?_ ?_
          rotate_left
          · intro w'
            go_simp
            with_reducible rfl
          rotate_left
          · simp only [Act.put, List.setIfInBounds_toArray, List.set_cons_zero, List.set_cons_succ, i64_w, i32_w]
            rfl
          refine take_ (i := 14) (N := some 72) (v := ?_) (a' := ?_) #[true, true, true, true, true, true, true, true, true, true, true, true, true, true, true, false, false, false, false, false] rfl rfl (by kernel_rfl) (fun _ _ _ h => h) (Or.inl ⟨by rfl, ?_⟩) hHeld ?_ ?_
          rotate_left
          · rintro w' ⟨s0, s1⟩
            go_simp
            with_reducible rfl
          rotate_left
          · simp only [Act.put, List.setIfInBounds_toArray, List.set_cons_zero, List.set_cons_succ, i64_w, i32_w]
            rfl
          refine pure_ (i := 15) (N := some 73) (v := ?_) (a' := ?_) #[true, true, true, true, true, true, true, true, true, true, true, true, true, true, true, true, false, false, false, false] rfl rfl (by kernel_rfl) (fun _ _ _ h => h) (Or.inl ⟨by rfl, ?_⟩) ?_ ?_
          rotate_left
          · intro w'
            go_simp
            with_reducible rfl
          rotate_left
          · simp only [Act.put, List.setIfInBounds_toArray, List.set_cons_zero, List.set_cons_succ, i64_w, i32_w]
            rfl
          refine pure_ (i := 16) (N := some 74) (v := ?_) (a' := ?_) #[true, true, true, true, true, true, true, true, true, true, true, true, true, true, true, true, true, false, false, false] rfl rfl (by kernel_rfl) (fun _ _ _ h => h) (Or.inl ⟨by rfl, ?_⟩) ?_ ?_
          rotate_left
          · intro w'
            go_simp
            with_reducible rfl
          rotate_left
          · simp only [Act.put, List.setIfInBounds_toArray, List.set_cons_zero, List.set_cons_succ, i64_w, i32_w]
            rfl
          try rw [hsum]
          refine one_ (i := 17) (N := some 75) #[true, true, true, true, true, true, true, true, true, true, true, true, true, true, true, true, true, true, false, false] rfl rfl (by kernel_rfl) (by decide) (fun K hK => ?_)
          refine Kd.R_lit_step (Kd.int .i64) _ 3 ?hg (N := 75) ?hd (xs := [nx]) (inner := [.int .i64 nx]) (ok := fun _ => True) (okp := fun _ => True) ?hr ?hp (fun _ hk => hk) trivial (Below.refl _ _) (Nat.le_refl _) (by simp) ?_; (case hd => rfl); (case hg => rfl); (case hr => first | (go_simp; done) | (go_simp; rfl)); (case hp => exact (Reps.one (show Kd.M (Kd.int .i64) _ _ _ nx [.int .i64 nx] from rfl) (Reps.none _ _)))
          intro vL wL hoL hbL hgL hnL
          have HS0_ := (hbL.cell (World.block_lt_of_cell? _ _ (hHeld.1))).trans (hHeld.1)
          have HS1_ := (hbL.cell (World.block_lt_of_cell? _ _ (hHeld.2))).trans (hHeld.2)
          have HO_n := Aside0.mk (Kd.R_elder' HO2.out (Kd.R_base hoL) hbL)
          have HL_n := Aside0.mk (Kd.R_lower (Kd.R_new' hoL (Kd.R_lt HO2.out)) HB2.out.size)
          have HB_n := Aside0.mk (below_step HB2.out hbL)
          clear hgL hnL hbL hoL
          obtain ⟨AL, cL, eL⟩ := Kd.R_slice HL_n.out
          (first | subst eL | (injection eL with f1_ f2_ f3_; have f4_ := f1_.symm; have f5_ := f3_.symm; clear f1_ f2_ f3_; subst f4_; subst f5_))
          refine hK.out _ _ ⟨HS0_, HS1_⟩ (fun hHeld => ?_)
          clear hK K
          refine norm_ (a' := ?_) ?_ ?_
          rotate_left
          · show Act.put _ (some 75) _ = _
            simp only [Act.put, List.setIfInBounds_toArray, List.set_cons_zero, List.set_cons_succ, i64_w, i32_w]
            rfl
          refine last_ (i := 18) (N := some 76) #[true, true, true, true, true, true, true, true, true, true, true, true, true, true, true, true, true, true, true, false] rfl rfl (by kernel_rfl) (by decide) (fun K hK => ?_)
          refine Kd.R_append_rows_step (Kd.int .i64) (w0 := w) w.heap.size (by rfl) (.tmp 58) (.tmp 75) 45 3 (.int .i64 0) 8 rfl Try.underlying45 info3 rfl (by decide) (by omega) (.slice (some ad) t c) (wsT l1 t) [nx] _ _ _ (fun k_ => some k_ ≠ (.slice AL 1 cL : Value).ownBlock) (fun _ => False) rfl rfl ?aO ?aR (fun _ _ h => h) (fun _ h => h.elim) ?aF ?aB ?aS ?aL ?_
          (case aR => exact (Kd.R_reads' HL_n.out).2.2)
          (case aB => exact HB_n.out)
          (case aF => exact (fun k_ hk => Kd.fresh' (Kd.R_lt HL_n.out) k_ hk))
          (case aO => exact Kd.R_mono HO_n.out (fun _ hk => hk.2))
          (case aS => exact HB_n.out.size)
          (case aL => rw [wsT_length l1 t ht]; simp only [List.length_cons, List.length_nil]; omega)
          intro vA w9 ho hb hg hat
          rw [show wsT l1 t ++ [nx] = wsT l1 (t + 1) by rw [← wsT_succ l1 t hlt, if_neg h16, HNX.out]] at ho
          obtain ⟨A3, c3, e6⟩ := Kd.R_slice ho
          rw [wsT_length l1 (t + 1) hlt] at e6
          subst e6
          have HO3 := Aside0.mk (Kd.R_mono ho (fun _ _ => trivial))
          have HB3 := Aside0.mk hb
          clear ho hb hg hat HO_n HL_n HB_n HO2 HB2
          refine hK.out _ _ ?_
          clear hK K
          refine norm_ (a' := ?_) ?_ ?_
          rotate_left
          · show Act.put _ (some 76) _ = _
            simp only [Act.put, List.setIfInBounds_toArray, List.set_cons_zero, List.set_cons_succ, i64_w, i32_w]
            rfl
          refine pure_ (i := 19) (N := some 5) (v := ?_) (a' := ?_) #[true, true, true, true, true, true, true, true, true, true, true, true, true, true, true, true, true, true, true, true] rfl rfl (by kernel_rfl) (fun _ _ _ h => h) (Or.inl ⟨by rfl, ?_⟩) ?_ ?_
          rotate_left
          · intro w'
            go_simp
            with_reducible rfl
          rotate_left
          · simp only [Act.put, List.setIfInBounds_toArray, List.set_cons_zero, List.set_cons_succ, i64_w, i32_w]
            rfl
          refine done_ (by kernel_rfl) ?_
          try go_wp2
          go_roundw
          case rel => exact ⟨t + 1, A3, c3, by omega, by go_num, rfl, HO3, HB3⟩
          case measure => simp [intOf]; omega
      · obtain rfl : t = 64 := by omega
        clear ht hlt
        rw [wsT_all] at HO
        go_wp2_with fail
        refine (chandleryref03_k.calls 300 KK _ KK_k).mono ?_
        rintro e w1 ⟨v1, rfl, hr, hb⟩
        obtain ⟨AK, cK, rfl⟩ := Kd.R_slice hr
        have HW1 := Aside0.mk (Kd.R_reads' (Kd.R_below HO.out hb)).2
        have HK1 := Aside0.mk (Kd.R_reads' hr).2
        have HB1 := Aside0.mk (below_then HB.out HB.out.size hb)
        have HP1 := Aside0.mk (Kd.C_below HR0.out HB1.out)
        clear hr hb HO HB
        generalize wr.heap.size = Bk at *
        obtain ⟨a0, ea, _⟩ := Kd.at_int HP1.out 0 (by omega) (by rw [L8.out]; decide)
        obtain ⟨aw, ew, _⟩ := Kd.at_int HW1.out.2 0 (by omega) (by rw [wsAt_length]; decide)
        obtain ⟨ak, ek, _⟩ := Kd.at_int HK1.out.2 0 (by omega) (by rw [show KK.length = 64 by decide +kernel]; decide)
        subst ea ew ek
        have P0 : Aside0 (∀ j : Nat, j < 8 → w1.cell? (a0.add j) = some (.int .i64 (rd l0 (j : Int)))) := ⟨fun j hj => by
          obtain ⟨ad, e, hx⟩ := Kd.at_int HP1.out (j : Int) (by omega) (by rw [L8.out]; omega)
          cases e
          exact hx⟩
        have PW : Aside0 (∀ j : Nat, j < 64 → w1.cell? (aw.add j) = some (.int .i64 (rd (wsAt l1 64) (j : Int)))) := ⟨fun j hj => by
          obtain ⟨ad, e, hx⟩ := Kd.at_int HW1.out.2 (j : Int) (by omega) (by rw [wsAt_length]; omega)
          cases e
          exact hx⟩
        have PK : Aside0 (∀ j : Nat, j < 64 → w1.cell? (ak.add j) = some (.int .i64 (rd KK (j : Int)))) := ⟨fun j hj => by
          obtain ⟨ad, e, hx⟩ := Kd.at_int HK1.out.2 (j : Int) (by omega) (by rw [show KK.length = 64 by decide +kernel]; omega)
          cases e
          exact hx⟩
        have LK : Aside0 (KK.length = 64) := ⟨by decide +kernel⟩
        clear HW1 HK1 HP1
        have L8' := L8.out
        rw [LK.out]
        rw [L8']
        go_wp2_with fail
        have HV := Aside0.mk (show Arr8 (w1.alloc (.cells (nums .i64 (inV l0 0)).toArray 55)) w1.heap.size (inV l0 0) from ⟨inV_length l0 0 (by omega) L8.out, heap_alloc_new w1 _⟩)
        have HC := Aside0.mk ((Below.refl w1.heap.size w1).alloc (Nat.le_refl _) (.cells (nums .i64 (inV l0 0)).toArray 55))
        obtain ⟨g, hg⟩ : ∃ g, g = w1.heap.size := ⟨_, rfl⟩
        rw [← hg] at HV ⊢
        have HG := Aside0.mk hg
        clear hg
        go_loopw [13] (fun v w3 => ∃ i : Nat, i ≤ 8 ∧ v = .int .i64 i ∧ Aside0 (Arr8 w3 g (inV l0 i)) ∧ Aside0 (Below w1.heap.size w1 w3)) (fun v _ => 8 - (intOf v).toNat)
        case atStart => exact ⟨0, by omega, rfl, HV, HC⟩
        case round =>
          clear HV HC
          obtain ⟨i, hi, rfl, HV, HC⟩ := hrel
          by_cases hlt : i < 8
          · have d0 := pw_cell_below HC.out (P0.out i hlt)
            have f0 := HV.out.free i
            have d1 := HV.out.cell i hlt
            go_wp2_with fail
            go_roundw
            case rel =>
              have hle : w1.heap.size ≤ g := by rw [HG.out]; exact Nat.le_refl _
              exact ⟨i + 1, by omega, by go_num, ⟨by rw [← inV_put l0 L8.out i hlt]; exact HV.out.put i _⟩, ⟨HC.out.setCell hle _⟩⟩
            case measure => simp [intOf]; omega
          · obtain rfl : i = 8 := by omega
            clear hi hlt
            rw [inV_all l0 L8.out (wsAt l1 64)] at HV
            go_wp2_with fail
            go_loopw [14] (fun v w3 => ∃ t : Nat, t ≤ 64 ∧ v = .int .i64 t ∧ Aside0 (Arr8 w3 g (vsAt l0 (wsAt l1 64) t)) ∧ Aside0 (Below w1.heap.size w1 w3)) (fun v _ => 64 - (intOf v).toNat)
            case atStart => exact ⟨0, by omega, rfl, HV, HC⟩
            case round =>
              clear HV HC
              obtain ⟨t, ht, rfl, HV, HC⟩ := hrel
              by_cases hlt : t < 64
              · have k0 := pw_cell_below HC.out (PK.out t hlt)
                have x0 := pw_cell_below HC.out (PW.out t hlt)
                have UV := Aside0.mk (U_vsAt HU.out (wsAt l1 64) t)
                have LV := Aside0.mk (vsAt_length l0 (wsAt l1 64) t)
                have UKt := Aside0.mk (U_rd U_KK (t : Int))
                have UXt := Aside0.mk (U_rd (U_wsAt l1 64) (t : Int))
                have HR := Aside0.mk (show vsAt l0 (wsAt l1 64) (t + 1) = rndV (vsAt l0 (wsAt l1 64) t) (rd KK (t : Int)) (rd (wsAt l1 64) (t : Int)) from rfl)
                generalize vsAt l0 (wsAt l1 64) t = V at HV UV LV HR
                generalize rd KK (t : Int) = kt at k0 UKt HR
                generalize rd (wsAt l1 64) (t : Int) = xt at x0 UXt HR
                have d7 := HV.out.cell 7 (by omega)
                have d4 := HV.out.cell 4 (by omega)
                have d5 := HV.out.cell 5 (by omega)
                have d6 := HV.out.cell 6 (by omega)
                rw [show ((7 : Nat) : Int) = 7 from rfl] at d7
                rw [show ((4 : Nat) : Int) = 4 from rfl] at d4
                rw [show ((5 : Nat) : Int) = 5 from rfl] at d5
                rw [show ((6 : Nat) : Int) = 6 from rfl] at d6
                go_wp2_with fail
                go_quiet (first | (go_at_call 66; refine (rotq (U_rd UV.out _) _ (by decide) (by decide) _).mono ?_; rintro e w' ⟨rfl, ⟨nd, rfl⟩⟩; (try first | exact ⟨rfl, _, World.drewN_drewN _ _ _⟩ | exact ⟨rfl, _, Eq.trans (World.drewN_drewN _ _ _) (congrArg (World.drewN _) (Nat.add_assoc _ _ _))⟩)) | (go_at_call 65; refine (xorq (U_rotr _ _) (U_rotr _ _) (U_rotr _ _) _).mono ?_; rintro e w' ⟨rfl, ⟨nd, rfl⟩⟩; (try first | exact ⟨rfl, _, World.drewN_drewN _ _ _⟩ | exact ⟨rfl, _, Eq.trans (World.drewN_drewN _ _ _) (congrArg (World.drewN _) (Nat.add_assoc _ _ _))⟩)) | (go_at_call 68; refine (chq (U_rd UV.out _) (U_rd UV.out _) (U_rd UV.out _) _).mono ?_; rintro e w' ⟨rfl, ⟨nd, rfl⟩⟩; (try first | exact ⟨rfl, _, World.drewN_drewN _ _ _⟩ | exact ⟨rfl, _, Eq.trans (World.drewN_drewN _ _ _) (congrArg (World.drewN _) (Nat.add_assoc _ _ _))⟩)) | (go_at_call 69; refine (majq (U_rd UV.out _) (U_rd UV.out _) (U_rd UV.out _) _).mono ?_; rintro e w' ⟨rfl, ⟨nd, rfl⟩⟩; (try first | exact ⟨rfl, _, World.drewN_drewN _ _ _⟩ | exact ⟨rfl, _, Eq.trans (World.drewN_drewN _ _ _) (congrArg (World.drewN _) (Nat.add_assoc _ _ _))⟩)))
                have hF := add5U (U_rd UV.out 7) (U_bits .xor (Go.bits .xor .u32 (rotr (rd V 4) 6) (rotr (rd V 4) 11)) (rotr (rd V 4) 25)) (U_bits .xor (Go.bits .and .u32 (rd V 4) (rd V 5)) (Go.bits .and .u32 (Go.bits .xor .u32 IntKind.u32.max (rd V 4)) (rd V 6))) UKt.out UXt.out
                rw [hF]
                rw [show (rd V 7 + Go.bits .xor .u32 (Go.bits .xor .u32 (rotr (rd V 4) 6) (rotr (rd V 4) 11)) (rotr (rd V 4) 25) + Go.bits .xor .u32 (Go.bits .and .u32 (rd V 4) (rd V 5)) (Go.bits .and .u32 (Go.bits .xor .u32 IntKind.u32.max (rd V 4)) (rd V 6)) + kt + xt) % 4294967296 = fstV V kt xt from rfl]
                clear hF d7 d4 d5 d6 k0 x0
                have UF : Aside0 (U (fstV V kt xt)) := ⟨U_mod _⟩
                have HR' := Aside0.mk (show vsAt l0 (wsAt l1 64) (t + 1) = [(fstV V kt xt + sndV V) % 4294967296, rd V 0, rd V 1, rd V 2, (rd V 3 + fstV V kt xt) % 4294967296, rd V 4, rd V 5, rd V 6] from HR.out)
                clear HR UKt UXt
                generalize fstV V kt xt = ft at UF HR' ⊢
                have HV2 := Aside0.mk (HV.out.drewN nq)
                have HC2 := Aside0.mk (pw_below_drewN HC.out nq)
                clear HV HC
                generalize wr.drewN nq = w4 at HV2 HC2 ⊢
                have d0 := HV2.out.cell 0 (by omega)
                have d1 := HV2.out.cell 1 (by omega)
                have d2 := HV2.out.cell 2 (by omega)
                rw [show ((0 : Nat) : Int) = 0 from rfl] at d0
                rw [show ((1 : Nat) : Int) = 1 from rfl] at d1
                rw [show ((2 : Nat) : Int) = 2 from rfl] at d2
                go_wp2_with fail
                go_quiet (first | (go_at_call 66; refine (rotq (U_rd UV.out _) _ (by decide) (by decide) _).mono ?_; rintro e w' ⟨rfl, ⟨nd, rfl⟩⟩; (try first | exact ⟨rfl, _, World.drewN_drewN _ _ _⟩ | exact ⟨rfl, _, Eq.trans (World.drewN_drewN _ _ _) (congrArg (World.drewN _) (Nat.add_assoc _ _ _))⟩)) | (go_at_call 65; refine (xorq (U_rotr _ _) (U_rotr _ _) (U_rotr _ _) _).mono ?_; rintro e w' ⟨rfl, ⟨nd, rfl⟩⟩; (try first | exact ⟨rfl, _, World.drewN_drewN _ _ _⟩ | exact ⟨rfl, _, Eq.trans (World.drewN_drewN _ _ _) (congrArg (World.drewN _) (Nat.add_assoc _ _ _))⟩)) | (go_at_call 68; refine (chq (U_rd UV.out _) (U_rd UV.out _) (U_rd UV.out _) _).mono ?_; rintro e w' ⟨rfl, ⟨nd, rfl⟩⟩; (try first | exact ⟨rfl, _, World.drewN_drewN _ _ _⟩ | exact ⟨rfl, _, Eq.trans (World.drewN_drewN _ _ _) (congrArg (World.drewN _) (Nat.add_assoc _ _ _))⟩)) | (go_at_call 69; refine (majq (U_rd UV.out _) (U_rd UV.out _) (U_rd UV.out _) _).mono ?_; rintro e w' ⟨rfl, ⟨nd, rfl⟩⟩; (try first | exact ⟨rfl, _, World.drewN_drewN _ _ _⟩ | exact ⟨rfl, _, Eq.trans (World.drewN_drewN _ _ _) (congrArg (World.drewN _) (Nat.add_assoc _ _ _))⟩)))
                have hS := add2U (U_bits .xor (Go.bits .xor .u32 (rotr (rd V 0) 2) (rotr (rd V 0) 13)) (rotr (rd V 0) 22)) (U_bits .xor (Go.bits .xor .u32 (Go.bits .and .u32 (rd V 0) (rd V 1)) (Go.bits .and .u32 (rd V 0) (rd V 2))) (Go.bits .and .u32 (rd V 1) (rd V 2)))
                rw [hS]
                rw [show (Go.bits .xor .u32 (Go.bits .xor .u32 (rotr (rd V 0) 2) (rotr (rd V 0) 13)) (rotr (rd V 0) 22) + Go.bits .xor .u32 (Go.bits .xor .u32 (Go.bits .and .u32 (rd V 0) (rd V 1)) (Go.bits .and .u32 (rd V 0) (rd V 2))) (Go.bits .and .u32 (rd V 1) (rd V 2))) % 4294967296 = sndV V from rfl]
                clear hS d0 d1 d2
                have US : Aside0 (U (sndV V)) := ⟨U_mod _⟩
                generalize sndV V = sn at US HR' ⊢
                have HV3 := Aside0.mk (show Arr8 (w4.drewN nq) g (shV V 7) by rw [shV_top V LV.out]; exact HV2.out.drewN nq)
                have HC3 := Aside0.mk (pw_below_drewN HC2.out nq)
                clear HV2 HC2
                generalize w4.drewN nq = w5 at HV3 HC3 ⊢
                go_wp2_with fail
                go_loopw [17] (fun v w3 => ∃ i : Nat, i ≤ 7 ∧ v = .int .i64 i ∧ Aside0 (Arr8 w3 g (shV V i)) ∧ Aside0 (Below w1.heap.size w1 w3)) (fun v _ => (intOf v).toNat)
                case atStart => exact ⟨7, by omega, rfl, HV3, HC3⟩
                case round =>
                  clear HV3 HC3
                  obtain ⟨i, hi, rfl, HV, HC⟩ := hrel
                  have hle : Aside0 (w1.heap.size ≤ g) := ⟨by rw [HG.out]; exact Nat.le_refl _⟩
                  by_cases h0 : 0 < i
                  · obtain ⟨m, hm⟩ : ∃ m, m = i - 1 := ⟨_, rfl⟩
                    have e1 : wrap64 ((i : Int) - 1) = (m : Int) := by rw [w64n (by omega) (by omega)]; omega
                    have hi8 : i < 8 := by omega
                    have hm8 : m < 8 := by omega
                    have hmi := Aside0.mk (show i = m + 1 by omega)
                    clear hm hi
                    have dm : wr.cell? ⟨g, i - 1, none⟩ = some (.int .i64 (rd (shV V i) (m : Int))) := by rw [show i - 1 = m by have := hmi.out; omega]; exact HV.out.cell m hm8
                    have di := HV.out.cell i hi8
                    have fi := HV.out.free i
                    go_wp2_with fail
                    go_roundw
                    case rel =>
                      refine ⟨m, by omega, by have := hmi.out; congr 1; omega, ⟨?_⟩, ⟨HC.out.setCell hle.out _⟩⟩
                      have e := shV_put V LV.out m (by have := hmi.out; omega)
                      rw [← hmi.out] at e
                      rw [← e]
                      exact HV.out.put i _
                    case measure =>
                      have := hmi.out
                      simp [intOf]
                      omega
                  · obtain rfl : i = 0 := by omega
                    clear h0 hi
                    have d4 := HV.out.cell 4 (by omega)
                    rw [show ((4 : Nat) : Int) = 4 from rfl, shV_four V LV.out] at d4
                    have f4 := HV.out.free 4
                    have s4 := add2U (U_rd UV.out 3) UF.out
                    go_upto_region 28 with fail
                    try rw [s4]
                    clear d4 f4 s4
                    have HV4 := Aside0.mk (HV.out.put 4 ((rd V 3 + ft) % 4294967296))
                    have HC4 := Aside0.mk (show Below w1.heap.size w1 (wr.setCell ⟨g, 4, none⟩ (.int .i64 ((rd V 3 + ft) % 4294967296))) from HC.out.setCell hle.out _)
                    clear HV HC
                    generalize wr.setCell ⟨g, 4, none⟩ (.int .i64 ((rd V 3 + ft) % 4294967296)) = w6 at HV4 HC4 ⊢
                    have d0 := HV4.out.cell 0 (by omega)
                    have f0 := HV4.out.free 0
                    have s0 := add2U UF.out US.out
                    go_wp2_with fail
                    try rw [s0]
                    go_roundw
                    case rel => exact ⟨t + 1, by omega, by go_num, ⟨by rw [HR'.out, ← shV_end V LV.out]; exact HV4.out.put 0 _⟩, ⟨HC4.out.setCell hle.out _⟩⟩
                    case measure => simp [intOf]; omega
              · obtain rfl : t = 64 := by omega
                clear ht hlt
                go_wp2_with fail
                obtain ⟨w2, hw2⟩ : ∃ w2 : World, w2 = wr := ⟨_, rfl⟩
                have PV : Aside0 (∀ j : Nat, j < 8 → w2.cell? ⟨g, j, none⟩ = some (.int .i64 (rd (vsAt l0 (wsAt l1 64) 64) (j : Int)))) := ⟨fun j hj => by rw [hw2]; exact HV.out.cell j hj⟩
                have P2 : Aside0 (∀ j : Nat, j < 8 → w2.cell? (a0.add j) = some (.int .i64 (rd l0 (j : Int)))) := ⟨fun j hj => by rw [hw2]; exact pw_cell_below HC.out (P0.out j hj)⟩
                have HB2 : Aside0 (Below w.heap.size w w2) := ⟨by rw [hw2]; exact below_then HB1.out HB1.out.size HC.out⟩
                have UV := Aside0.mk (U_vsAt HU.out (wsAt l1 64) 64)
                clear HV HC
                rw [← hw2]
                clear hw2
                go_loopw [18, 19] (fun v x w3 => ∃ (i : Nat) (A : Option Addr) (c : Nat), i ≤ 8 ∧ x = .int .i64 (i : Int) ∧ v = .slice A i c ∧ Aside0 (Kd.R (Kd.int .i64) 3 w3 w2.heap.size (fun _ => True) v ((mixS l0 l1).take i)) ∧ Aside0 (Below w2.heap.size w2 w3)) (fun _ v _ => 8 - (intOf v).toNat)
                case atStart => exact ⟨0, none, 0, by omega, rfl, rfl, ⟨Kd.R_nil _ _ _ _ _⟩, ⟨Below.refl _ _⟩⟩
                case round =>
                  obtain ⟨i, A, c, hi, rfl, rfl, HO, HB⟩ := hrel
                  by_cases hlt : i < 8
                  · have d0 := pw_cell_below HB.out (P2.out i hlt)
                    have d1 := pw_cell_below HB.out (PV.out i hlt)
                    have hsum := add2U (U_rd HU.out (i : Int)) (U_rd UV.out (i : Int))
                    obtain ⟨ox, hox⟩ : ∃ ox, ox = outV l0 (vsAt l0 (wsAt l1 64) 64) i := ⟨_, rfl⟩
                    rw [show (rd l0 (i : Int) + rd (vsAt l0 (wsAt l1 64) 64) (i : Int)) % 4294967296 = ox from hox.symm] at hsum
                    have HOX := Aside0.mk hox
                    clear hox
                    go_upto_region 33 with fail
                    refine start_ (n := 13) (S := fun w' => w'.cell? (a0.add i) = some (.int .i64 (rd l0 (i : Int))) ∧ w'.cell? ⟨g, i, none⟩ = some (.int .i64 (rd (vsAt l0 (wsAt l1 64) 64) (i : Int)))) (ds := [11]) #[false, false, false, false, false, false, false, false, false, false, false, false, false] (by kernel_rfl) rfl rfl ⟨d0, d1⟩ (fun hHeld => ?_)
                    have HO2 := Aside0.mk (Kd.R_drew HO.out)
                    have HB2 := Aside0.mk (below_drew1 HB.out)
                    clear HO HB d0 d1
                    generalize wr.drew = w3 at HO2 HB2 hHeld ⊢
                    refine pure_ (i := 0) (N := some 168) (v := ?_) (a' := ?_) #[true, false, false, false, false, false, false, false, false, false, false, false, false] rfl rfl (by kernel_rfl) (fun _ _ _ h => h) (Or.inl ⟨by rfl, ?_⟩) ?_ ?_
                    rotate_left
                    · intro w'
                      go_simp
                      with_reducible rfl
                    rotate_left
                    · simp only [Act.put, List.setIfInBounds_toArray, List.set_cons_zero, List.set_cons_succ, i64_w, i32_w]
                      rfl
                    refine pure_ (i := 1) (N := some 169) (v := ?_) (a' := ?_) #[true, true, false, false, false, false, false, false, false, false, false, false, false] rfl rfl (by kernel_rfl) (fun _ _ _ h => h) (Or.inl ⟨by rfl, ?_⟩) ?_ ?_
                    rotate_left
                    · intro w'
                      go_simp
                      with_reducible rfl
                    rotate_left
                    · simp only [Act.put, List.setIfInBounds_toArray, List.set_cons_zero, List.set_cons_succ, i64_w, i32_w]
                      rfl
                    refine pure_ (i := 2) (N := some 170) (v := ?_) (a' := ?_) #[true, true, true, false, false, false, false, false, false, false, false, false, false] rfl rfl (by kernel_rfl) (fun _ _ _ h => h) (Or.inl ⟨by rfl, ?_⟩) ?_ ?_
                    rotate_left
                    · intro w'
                      go_simp
                      with_reducible rfl
                    rotate_left
                    · simp only [Act.put, List.setIfInBounds_toArray, List.set_cons_zero, List.set_cons_succ, i64_w, i32_w]
                      rfl
                    refine pure_ (i := 3) (N := some 171) (v := ?_) (a' := ?_) #[true, true, true, true, false, false, false, false, false, false, false, false, false] rfl rfl (by kernel_rfl) (fun _ _ _ h => h) (Or.inl ⟨by rfl, ?_⟩) ?_ ?_
                    rotate_left
                    · intro w'
                      go_simp
                      with_reducible rfl
                    rotate_left
                    · simp only [Act.put, List.setIfInBounds_toArray, List.set_cons_zero, List.set_cons_succ, i64_w, i32_w]
                      rfl
                    refine take_ (i := 4) (N := some 172) (v := ?_) (a' := ?_) #[true, true, true, true, true, false, false, false, false, false, false, false, false] rfl rfl (by kernel_rfl) (fun _ _ _ h => h) (Or.inl ⟨by rfl, ?_⟩) hHeld ?_ ?_
                    rotate_left
                    · rintro w' ⟨s0, s1⟩
                      go_simp
                      with_reducible rfl
                    rotate_left
                    · simp only [Act.put, List.setIfInBounds_toArray, List.set_cons_zero, List.set_cons_succ, i64_w, i32_w]
                      rfl
                    refine pure_ (i := 5) (N := some 173) (v := ?_) (a' := ?_) #[true, true, true, true, true, true, false, false, false, false, false, false, false] rfl rfl (by kernel_rfl) (fun _ _ _ h => h) (Or.inl ⟨by rfl, ?_⟩) ?_ ?_
                    rotate_left
                    · intro w'
                      go_simp
                      with_reducible rfl
                    rotate_left
                    · simp only [Act.put, List.setIfInBounds_toArray, List.set_cons_zero, List.set_cons_succ, i64_w, i32_w]
                      rfl
                    refine pure_ (i := 6) (N := some 174) (v := ?_) (a' := ?_) #[true, true, true, true, true, true, true, false, false, false, false, false, false] rfl rfl (by kernel_rfl) (fun _ _ _ h => h) (Or.inl ⟨by rfl, ?_⟩) ?_ ?_
                    rotate_left
                    · intro w'
                      go_simp
                      with_reducible rfl
                    rotate_left
                    · simp only [Act.put, List.setIfInBounds_toArray, List.set_cons_zero, List.set_cons_succ, i64_w, i32_w]
                      rfl
                    refine take_ (i := 7) (N := some 175) (v := ?_) (a' := ?_) #[true, true, true, true, true, true, true, true, false, false, false, false, false] rfl rfl (by kernel_rfl) (fun _ _ _ h => h) (Or.inl ⟨by rfl, ?_⟩) hHeld ?_ ?_
                    rotate_left
                    · rintro w' ⟨s0, s1⟩
                      go_simp
                      with_reducible rfl
                    rotate_left
                    · simp only [Act.put, List.setIfInBounds_toArray, List.set_cons_zero, List.set_cons_succ, i64_w, i32_w]
                      rfl
                    refine pure_ (i := 8) (N := some 176) (v := ?_) (a' := ?_) #[true, true, true, true, true, true, true, true, true, false, false, false, false] rfl rfl (by kernel_rfl) (fun _ _ _ h => h) (Or.inl ⟨by rfl, ?_⟩) ?_ ?_
                    rotate_left
                    · intro w'
                      go_simp
                      with_reducible rfl
                    rotate_left
                    · simp only [Act.put, List.setIfInBounds_toArray, List.set_cons_zero, List.set_cons_succ, i64_w, i32_w]
                      rfl
                    refine pure_ (i := 9) (N := some 177) (v := ?_) (a' := ?_) #[true, true, true, true, true, true, true, true, true, true, false, false, false] rfl rfl (by kernel_rfl) (fun _ _ _ h => h) (Or.inl ⟨by rfl, ?_⟩) ?_ ?_
                    rotate_left
                    · intro w'
                      go_simp
                      with_reducible rfl
                    rotate_left
                    · simp only [Act.put, List.setIfInBounds_toArray, List.set_cons_zero, List.set_cons_succ, i64_w, i32_w]
                      rfl
                    try rw [hsum]
                    refine one_ (i := 10) (N := some 178) #[true, true, true, true, true, true, true, true, true, true, true, false, false] rfl rfl (by kernel_rfl) (by decide) (fun K hK => ?_)
                    refine Kd.R_lit_step (Kd.int .i64) _ 3 ?hg (N := 178) ?hd (xs := [ox]) (inner := [.int .i64 ox]) (ok := fun _ => True) (okp := fun _ => True) ?hr ?hp (fun _ hk => hk) trivial (Below.refl _ _) (Nat.le_refl _) (by simp) ?_; (case hd => rfl); (case hg => rfl); (case hr => first | (go_simp; done) | (go_simp; rfl)); (case hp => exact (Reps.one (show Kd.M (Kd.int .i64) _ _ _ ox [.int .i64 ox] from rfl) (Reps.none _ _)))
                    intro vL wL hoL hbL hgL hnL
                    have HS0_ := (hbL.cell (World.block_lt_of_cell? _ _ (hHeld.1))).trans (hHeld.1)
                    have HS1_ := (hbL.cell (World.block_lt_of_cell? _ _ (hHeld.2))).trans (hHeld.2)
                    have HO_n := Aside0.mk (Kd.R_elder' HO2.out (Kd.R_base hoL) hbL)
                    have HL_n := Aside0.mk (Kd.R_lower (Kd.R_new' hoL (Kd.R_lt HO2.out)) HB2.out.size)
                    have HB_n := Aside0.mk (below_step HB2.out hbL)
                    clear hgL hnL hbL hoL
                    obtain ⟨AL, cL, eL⟩ := Kd.R_slice HL_n.out
                    (first | subst eL | (injection eL with f1_ f2_ f3_; have f4_ := f1_.symm; have f5_ := f3_.symm; clear f1_ f2_ f3_; subst f4_; subst f5_))
                    refine hK.out _ _ ⟨HS0_, HS1_⟩ (fun hHeld => ?_)
                    clear hK K
                    refine norm_ (a' := ?_) ?_ ?_
                    rotate_left
                    · show Act.put _ (some 178) _ = _
                      simp only [Act.put, List.setIfInBounds_toArray, List.set_cons_zero, List.set_cons_succ, i64_w, i32_w]
                      rfl
                    refine last_ (i := 11) (N := some 179) #[true, true, true, true, true, true, true, true, true, true, true, true, false] rfl rfl (by kernel_rfl) (by decide) (fun K hK => ?_)
                    refine Kd.R_append_rows_step (Kd.int .i64) (w0 := w2) w2.heap.size (by rfl) (.tmp 168) (.tmp 178) 45 3 (.int .i64 0) 8 rfl Try.underlying45 info3 rfl (by decide) (by omega) (.slice A i c) ((mixS l0 l1).take i) [ox] _ _ _ (fun k_ => some k_ ≠ (.slice AL 1 cL : Value).ownBlock) (fun _ => False) rfl rfl ?aO ?aR (fun _ _ h => h) (fun _ h => h.elim) ?aF ?aB ?aS ?aL ?_
                    (case aR => exact (Kd.R_reads' HL_n.out).2.2)
                    (case aB => exact HB_n.out)
                    (case aF => exact (fun k_ hk => Kd.fresh' (Kd.R_lt HL_n.out) k_ hk))
                    (case aO => exact Kd.R_mono HO_n.out (fun _ hk => hk.2))
                    (case aS => exact HB_n.out.size)
                    (case aL => rw [List.length_take, mixS_length, Nat.min_eq_left (show i ≤ 8 by omega)]; simp only [List.length_cons, List.length_nil]; omega)
                    intro vA w9 ho hb hg hat
                    rw [show (mixS l0 l1).take i ++ [ox] = (mixS l0 l1).take (i + 1) by rw [← mixS_take l0 l1 i hlt, HOX.out]] at ho
                    obtain ⟨A3, c3, e6⟩ := Kd.R_slice ho
                    rw [List.length_take, mixS_length, Nat.min_eq_left (show i + 1 ≤ 8 by omega)] at e6
                    subst e6
                    have HO3 := Aside0.mk (Kd.R_mono ho (fun _ _ => trivial))
                    have HB3 := Aside0.mk hb
                    clear ho hb hg hat HO_n HL_n HB_n HO2 HB2
                    refine hK.out _ _ ?_
                    clear hK K
                    refine norm_ (a' := ?_) ?_ ?_
                    rotate_left
                    · show Act.put _ (some 179) _ = _
                      simp only [Act.put, List.setIfInBounds_toArray, List.set_cons_zero, List.set_cons_succ, i64_w, i32_w]
                      rfl
                    refine pure_ (i := 12) (N := some 18) (v := ?_) (a' := ?_) #[true, true, true, true, true, true, true, true, true, true, true, true, true] rfl rfl (by kernel_rfl) (fun _ _ _ h => h) (Or.inl ⟨by rfl, ?_⟩) ?_ ?_
                    rotate_left
                    · intro w'
                      go_simp
                      with_reducible rfl
                    rotate_left
                    · simp only [Act.put, List.setIfInBounds_toArray, List.set_cons_zero, List.set_cons_succ, i64_w, i32_w]
                      rfl
                    refine done_ (by kernel_rfl) ?_
                    try go_wp2
                    go_roundw
                    case rel => exact ⟨i + 1, A3, c3, by omega, by go_num, rfl, HO3, HB3⟩
                    case measure => simp [intOf]; omega
                  · obtain rfl : i = 8 := by omega
                    rw [List.take_of_length_le (by rw [mixS_length]; exact Nat.le_refl _)] at HO
                    go_wp2_with fail
                    go_ret
                    exact ⟨_, rfl, Kd.R_lower HO.out HB2.out.size, below_then HB2.out HB2.out.size HB.out⟩
  · rw [if_neg hn] at h
    cases h
end Go.Proofs.Ytffcegbcjkhnoaa.PC
