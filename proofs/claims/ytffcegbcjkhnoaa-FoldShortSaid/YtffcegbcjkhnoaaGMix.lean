/- The contract of sha256.mix: for a pointer to eight words at a block's head and a slice of 64 bytes in another block, it returns and the words are those of mixS; what else there was is as it was. -/
import Derived.Test.YtffcegbcjkhnoaaGArr
namespace Go.Proofs.Ytffcegbcjkhnoaa.PC
open Go.RowKit Go.Proofs.YtffcegbcjkhnoaaW.PrintWords Go.Proofs.YtffcegbcjkhnoaaW.PrintLast Go.Proofs.YtffcegbcjkhnoaaW.PrintMore
set_option linter.unusedVariables false
set_option linter.unusedSimpArgs false
theorem read_at {w w1 : World} {ab ao : Nat} {bs : List Int} (h : Kd.C (Kd.int .u8) w (some ⟨ab, ao, none⟩) 64 bs) (hb : Below w.heap.size w w1) (t j : Nat) (ht : t < 16) (hj : j < 4) :
    w1.cell? ⟨ab, ao + 4 * t + j, none⟩ = some (.int .u8 (rd bs (4 * (t : Int) + (j : Int)))) := by
  obtain ⟨a1, e1, hc⟩ := Kd.at_int (Kd.C_below h hb) (4 * (t : Int) + j) (by omega) (by omega)
  cases e1
  rw [show (4 * (t : Int) + (j : Int)).toNat = 4 * t + j by omega] at hc
  have ha : (⟨ab, ao, none⟩ : Addr).add (4 * t + j) = ⟨ab, ao + (4 * t + j), none⟩ := by unfold Addr.add; split <;> simp_all
  rw [ha] at hc
  rw [Nat.add_assoc]
  exact hc
theorem wsAt_succ0 (bs : List Int) (t : Nat) (h : t < 16) : (wsAt bs t).set t (wordB bs t) = wsAt bs (t + 1) := by rw [wsAt, if_pos h]
theorem wsAt_succ1 (bs : List Int) (t : Nat) (h : ¬ t < 16) : (wsAt bs t).set t (nextW (wsAt bs t) t) = wsAt bs (t + 1) := by rw [wsAt, if_neg h]
theorem below_setRow {B : Nat} {w W : World} (h : Below B w W) {g : Nat} (hg : B ≤ g) (cs : Array Value) : Below B w (W.setRow g cs) :=
  ⟨h.os, h.tape, h.output, by rw [setRow_size]; exact h.size, fun k hk => by rw [setRow_other _ _ _ _ (by omega)]; exact h.block k hk⟩
theorem Arr.otherRow {w : World} {g T n : Nat} {xs : List Int} (h : Arr w g T n xs) {k : Nat} (hne : g ≠ k) (cs : Array Value) : Arr (w.setRow k cs) g T n xs :=
  ⟨h.len, by rw [setRow_other _ _ _ _ hne]; exact h.blk⟩
theorem Arr.row {w : World} {g T n : Nat} {xs : List Int} (h : Arr w g T n xs) (ys : List Int) (hl : ys.length = n) : Arr (w.setRow g (nums .u32 ys).toArray) g T n ys :=
  ⟨hl, setRow_heap _ _ _ _ _ _ h.blk⟩
theorem rndV_cells (v : List Int) (k x : Int) : (nums .u32 (rndV v k x)).toArray = #[.int .u32 ((fstV v k x + sndV v) % 4294967296), .int .u32 (rd v 0), .int .u32 (rd v 1), .int .u32 (rd v 2), .int .u32 ((rd v 3 + fstV v k x) % 4294967296), .int .u32 (rd v 4), .int .u32 (rd v 5), .int .u32 (rd v 6)] := rfl
theorem grown_put {w w3 : World} {b : Nat} (h : w.grownBy w3 (some b)) (j : Nat) (v : Value) : w.grownBy (w3.setCell ⟨b, j, none⟩ v).drew (some b) :=
  ⟨h.os, h.tape, h.output, by show w.heap.size ≤ (w3.setCell ⟨b, j, none⟩ v).heap.size; simp [World.setCell]; exact h.size, fun k hk hne => by
    show (w3.setCell ⟨b, j, none⟩ v).heap[k]? = _
    rw [Below.heap_setCell _ _ _ _ (fun e => hne (by rw [e]))]
    exact h.block k hk hne⟩
theorem putTo_zero (cs : Array Value) (ys : List Int) : putTo cs ys 0 = cs := by simp [putTo, nums]
theorem mixS_length (ss bs : List Int) : (mixS ss bs).length = 8 := by simp [mixS]
theorem mixS_at (ss bs : List Int) (i : Nat) (h : i < 8) : (mixS ss bs)[i]'(by rw [mixS_length]; exact h) = outV ss (vsAt ss (wsAt bs 64) 64) i := by simp [mixS]
set_option maxRecDepth 100000 in
set_option maxHeartbeats 1000000 in
theorem mix_calls (b ab ao c T : Nat) (cur : Array Value) (ss bs : List Int) (hc : 64 ≤ c) (w : World) (hread : Kd.C (Kd.int .u8) w (some ⟨ab, ao, none⟩) 64 bs)
    (hblk : w.heap[b]? = some (.cells cur T (0, 0))) (hcur : ∀ i, i < 8 → cur[i]? = some (.int .u32 (rd ss (i : Int)))) :
    Calls Try.prog 62 #[.pointer (some ⟨b, 0, none⟩), .slice (some ⟨ab, ao, none⟩) 64 c] w fun e w' => e = .returned (.tuple #[]) ∧ w.grownBy w' (some b) ∧ w'.heap[b]? = some (.cells (putTo cur (mixS ss bs) 8) T (0, 0)) := by
  have HRd := Aside0.mk hread
  have HBl := Aside0.mk hblk
  have HCu := Aside0.mk hcur
  have hblt : b < w.heap.size := (Array.getElem?_eq_some_iff.1 hblk).1
  clear hread hblk hcur
  go_enter Try.func62, Try.ntmps62
  go_wp2
  go_loopw [16] (fun v wr => ∃ t : Nat, t ≤ 64 ∧ v = .int .i64 t ∧ Aside0 (Arr wr w.heap.size 84 64 (wsAt bs t)) ∧ Aside0 (Below w.heap.size w wr)) (fun v _ => 64 - (intOf v).toNat)
  case atStart => exact ⟨0, by omega, rfl, ⟨Arr.new w 84 64 _ _ (by simp [wsAt]) (by rfl)⟩, ⟨(Below.refl _ _).alloc (Nat.le_refl _) _⟩⟩
  case round =>
    obtain ⟨t, ht, rfl, HA, HB⟩ := hrel
    by_cases hlt : t < 64
    · by_cases h16 : t < 16
      · have c0 := read_at HRd.out HB.out t 0 h16 (by omega)
        have c1 := read_at HRd.out HB.out t 1 h16 (by omega)
        have c2 := read_at HRd.out HB.out t 2 h16 (by omega)
        have c3 := read_at HRd.out HB.out t 3 h16 (by omega)
        rw [show ((0 : Nat) : Int) = 0 from rfl, Int.add_zero, Nat.add_zero] at c0
        rw [show ((1 : Nat) : Int) = 1 from rfl] at c1
        rw [show ((2 : Nat) : Int) = 2 from rfl] at c2
        rw [show ((3 : Nat) : Int) = 3 from rfl] at c3
        have e4 : 4 * t + 4 - 4 * t = 4 := by omega
        have ho := HA.out.cell t (by omega)
        have hf := HA.out.free t
        go_wp2
        go_still_tail 24, (by kernel_rfl)
        change wpList _ _ _ _ _ wr.drew
        go_wp2
        go_roundw
        case rel => exact ⟨t + 1, by omega, by go_num, ⟨by rw [← wsAt_succ0 bs t h16]; exact (HA.out.put t _).drew⟩, ⟨(HB.out.setCell (Nat.le_refl _) _).drew⟩⟩
        case measure => simp [intOf]; omega
      · have i0 : (2 : Int) ≤ t := by omega
        have h2 := HA.out.cell (t - 2) (by omega)
        have h15 := HA.out.cell (t - 15) (by omega)
        go_wp2
        go_quiet (fail)
        go_wp2
        clear h2 h15
        have HA2 : Aside0 (Arr (wr.drewN nq) w.heap.size 84 64 (wsAt bs t)) := ⟨HA.out.drewN nq⟩
        have HB2 : Aside0 (Below w.heap.size w (wr.drewN nq)) := ⟨pw_below_drewN HB.out nq⟩
        generalize wr.drewN nq = W2 at HA2 HB2 ⊢
        have h7 := HA2.out.cell (t - 7) (by omega)
        have h16' := HA2.out.cell (t - 16) (by omega)
        have ho := HA2.out.cell t (by omega)
        have hf := HA2.out.free t
        have e7 : IntKind.i64.wrap ((t : Int) - 7) = (t : Int) - 7 := IntWalk.i64_in _ (by omega)
        have e16 : IntKind.i64.wrap ((t : Int) - 16) = (t : Int) - 16 := IntWalk.i64_in _ (by omega)
        have r7 : (7 : Int) ≤ t := by omega
        have r16 : (16 : Int) ≤ t := by omega
        have q7 : (t : Int) - 7 < 64 := by omega
        have q16 : (t : Int) - 16 < 64 := by omega
        have n7 : ((t : Int) - 7).toNat = t - 7 := by omega
        have n16 : ((t : Int) - 16).toNat = t - 16 := by omega
        go_still_tail 29, (by kernel_rfl)
        still_call (rot_calls _ 17 (by decide) (by decide) _)
        repeat still_step
        still_call (rot_calls _ 19 (by decide) (by decide) _)
        repeat still_step
        still_call (rot_calls _ 7 (by decide) (by decide) _)
        repeat still_step
        still_call (rot_calls _ 18 (by decide) (by decide) _)
        repeat still_step
        try refine wpStill_nil ?_
        change wpList _ _ _ _ _ W2.drew
        go_wp2
        go_roundw
        case rel => exact ⟨t + 1, by omega, by go_num, ⟨by rw [← wsAt_succ1 bs t h16]; exact (HA2.out.put t _).drew⟩, ⟨(HB2.out.setCell (Nat.le_refl _) _).drew⟩⟩
        case measure => simp [intOf]; omega
    · obtain rfl : t = 64 := by omega
      clear ht hlt
      have hb0 : ∀ j, j < 8 → wr.cell? ⟨b, j, none⟩ = some (.int .u32 (rd ss (j : Int))) := fun j hj => by
        rw [cell_of_row wr b j cur T (0, 0) (by rw [HB.out.block b hblt]; exact HBl.out)]
        exact HCu.out j hj
      have s0 := hb0 0 (by omega)
      have s1 := hb0 1 (by omega)
      have s2 := hb0 2 (by omega)
      have s3 := hb0 3 (by omega)
      have s4 := hb0 4 (by omega)
      have s5 := hb0 5 (by omega)
      have s6 := hb0 6 (by omega)
      have s7 := hb0 7 (by omega)
      clear hb0
      rw [show ((0 : Nat) : Int) = 0 from rfl] at s0
      rw [show ((1 : Nat) : Int) = 1 from rfl] at s1
      rw [show ((2 : Nat) : Int) = 2 from rfl] at s2
      rw [show ((3 : Nat) : Int) = 3 from rfl] at s3
      rw [show ((4 : Nat) : Int) = 4 from rfl] at s4
      rw [show ((5 : Nat) : Int) = 5 from rfl] at s5
      rw [show ((6 : Nat) : Int) = 6 from rfl] at s6
      rw [show ((7 : Nat) : Int) = 7 from rfl] at s7
      go_wp2_with fail
      refine (const_calls _).mono ?_
      rintro e w1 ⟨rfl, hb1⟩
      have HN := Aside0.mk ((Arr.new wr 73 8 (vsAt ss (wsAt bs 64) 0) _ rfl rfl).below hb1)
      have HA1 := Aside0.mk ((HA.out.old _).below hb1)
      have HB1 := Aside0.mk (below_then (HB.out.alloc HB.out.size _) (below_alloc HB.out _).size hb1)
      go_wp2_with fail
      clear s0 s1 s2 s3 s4 s5 s6 s7 hb1
      have hgl : Aside0 (w.heap.size ≤ wr.heap.size) := ⟨HB.out.size⟩
      have hne : Aside0 (w.heap.size ≠ wr.heap.size) := ⟨by have := HA.out.lt; omega⟩
      clear HA HB
      obtain ⟨wo, rfl⟩ : ∃ wo : World, wo = wr := ⟨_, rfl⟩
      generalize wo.heap.size = gv at HN hgl hne ⊢
      go_loopw [97] (fun v w2 => ∃ t : Nat, t ≤ 64 ∧ v = .int .i64 t ∧ Aside0 (Arr w2 w.heap.size 84 64 (wsAt bs 64)) ∧ Aside0 (Arr w2 gv 73 8 (vsAt ss (wsAt bs 64) t)) ∧ Aside0 (Below w.heap.size w w2)) (fun v _ => 64 - (intOf v).toNat)
      case atStart => exact ⟨0, by omega, rfl, HA1, HN, HB1⟩
      case round =>
        clear HA1 HN HB1
        obtain ⟨t, ht, rfl, HA, HV, HB⟩ := hrel
        by_cases hlt : t < 64
        · have hk := k_at t hlt
          have d0 := HV.out.cell 0 (by omega)
          have d1 := HV.out.cell 1 (by omega)
          have d2 := HV.out.cell 2 (by omega)
          have d3 := HV.out.cell 3 (by omega)
          have d4 := HV.out.cell 4 (by omega)
          have d5 := HV.out.cell 5 (by omega)
          have d6 := HV.out.cell 6 (by omega)
          have d7 := HV.out.cell 7 (by omega)
          have d8 := HA.out.cell t (by omega)
          rw [show ((0 : Nat) : Int) = 0 from rfl] at d0
          rw [show ((1 : Nat) : Int) = 1 from rfl] at d1
          rw [show ((2 : Nat) : Int) = 2 from rfl] at d2
          rw [show ((3 : Nat) : Int) = 3 from rfl] at d3
          rw [show ((4 : Nat) : Int) = 4 from rfl] at d4
          rw [show ((5 : Nat) : Int) = 5 from rfl] at d5
          rw [show ((6 : Nat) : Int) = 6 from rfl] at d6
          rw [show ((7 : Nat) : Int) = 7 from rfl] at d7
          go_wp2_with fail
          go_quiet ((go_at_call 76; exact Calls.quiet_of_same (turns_calls _ _ _ _ (by decide) (by decide) (by decide) (by decide) (by decide) (by decide) _)))
          go_wp2_with fail
          clear d0 d1 d2 d3 d4 d5 d6 d7 d8 hk
          have HA2 := Aside0.mk (HA.out.drewN nq)
          have HV2 := Aside0.mk (HV.out.drewN nq)
          have HB2 := Aside0.mk (pw_below_drewN HB.out nq)
          generalize wr.drewN nq = W2 at HA2 HV2 HB2 ⊢
          have hF : fstV (vsAt ss (wsAt bs 64) t) (rd KK (t : Int)) (rd (wsAt bs 64) (t : Int)) = (rd (vsAt ss (wsAt bs 64) t) 7 + tri (rd (vsAt ss (wsAt bs 64) t) 4) 6 11 25 + Go.bits .xor .u32 (Go.bits .and .u32 (rd (vsAt ss (wsAt bs 64) t) 4) (rd (vsAt ss (wsAt bs 64) t) 5)) (Go.bits .and .u32 (Go.bits .xor .u32 IntKind.u32.max (rd (vsAt ss (wsAt bs 64) t) 4)) (rd (vsAt ss (wsAt bs 64) t) 6)) + rd KK (t : Int) + rd (wsAt bs 64) (t : Int)) % 4294967296 := rfl
          rw [← hF]
          have HF := Aside0.mk hF
          clear hF
          have d0 := HV2.out.cell 0 (by omega)
          have d1 := HV2.out.cell 1 (by omega)
          have d2 := HV2.out.cell 2 (by omega)
          rw [show ((0 : Nat) : Int) = 0 from rfl] at d0
          rw [show ((1 : Nat) : Int) = 1 from rfl] at d1
          rw [show ((2 : Nat) : Int) = 2 from rfl] at d2
          go_quiet ((go_at_call 76; exact Calls.quiet_of_same (turns_calls _ _ _ _ (by decide) (by decide) (by decide) (by decide) (by decide) (by decide) _)))
          clear d0 d1 d2
          have HA3 := Aside0.mk (HA2.out.drewN nq)
          have HV3 := Aside0.mk (HV2.out.drewN nq)
          have HB3 := Aside0.mk (pw_below_drewN HB2.out nq)
          clear HA2 HV2 HB2
          generalize W2.drewN nq = W3 at HA3 HV3 HB3 ⊢
          have hS : sndV (vsAt ss (wsAt bs 64) t) = (tri (rd (vsAt ss (wsAt bs 64) t) 0) 2 13 22 + Go.bits .xor .u32 (Go.bits .xor .u32 (Go.bits .and .u32 (rd (vsAt ss (wsAt bs 64) t) 0) (rd (vsAt ss (wsAt bs 64) t) 1)) (Go.bits .and .u32 (rd (vsAt ss (wsAt bs 64) t) 0) (rd (vsAt ss (wsAt bs 64) t) 2))) (Go.bits .and .u32 (rd (vsAt ss (wsAt bs 64) t) 1) (rd (vsAt ss (wsAt bs 64) t) 2))) % 4294967296 := rfl
          rw [← hS]
          clear hS
          have d0 := HV3.out.cell 0 (by omega)
          have d1 := HV3.out.cell 1 (by omega)
          have d2 := HV3.out.cell 2 (by omega)
          have d3 := HV3.out.cell 3 (by omega)
          have d4 := HV3.out.cell 4 (by omega)
          have d5 := HV3.out.cell 5 (by omega)
          have d6 := HV3.out.cell 6 (by omega)
          rw [show ((0 : Nat) : Int) = 0 from rfl] at d0
          rw [show ((1 : Nat) : Int) = 1 from rfl] at d1
          rw [show ((2 : Nat) : Int) = 2 from rfl] at d2
          rw [show ((3 : Nat) : Int) = 3 from rfl] at d3
          rw [show ((4 : Nat) : Int) = 4 from rfl] at d4
          rw [show ((5 : Nat) : Int) = 5 from rfl] at d5
          rw [show ((6 : Nat) : Int) = 6 from rfl] at d6
          have hsz : (nums .u32 (vsAt ss (wsAt bs 64) t)).toArray.size = (nums .u32 (rndV (vsAt ss (wsAt bs 64) t) (rd KK (t : Int)) (rd (wsAt bs 64) (t : Int)))).toArray.size := by simp [nums, vsAt_length, rndV]
          have hi73 : (Try.prog.info? 73).map (·.size) = some (nums .u32 (rndV (vsAt ss (wsAt bs 64) t) (rd KK (t : Int)) (rd (wsAt bs 64) (t : Int)))).toArray.size := by rw [show (nums .u32 (rndV (vsAt ss (wsAt bs 64) t) (rd KK (t : Int)) (rd (wsAt bs 64) (t : Int)))).toArray.size = 8 from rfl]; kernel_rfl
          have hone : (nums .u32 (rndV (vsAt ss (wsAt bs 64) t) (rd KK (t : Int)) (rd (wsAt bs 64) (t : Int)))).toArray.all (·.oneCell') = true := by simp [nums, rndV, Value.oneCell']
          have HSZ := Aside0.mk hsz
          have HI := Aside0.mk hi73
          have HO := Aside0.mk hone
          clear hsz hi73 hone
          go_wp2_with ((with_reducible refine gate_store (t := 73) (p := 10) (v := .tmp 168) rfl ?_); refine wpList_store_row rfl 73 (.tmp 10) (.tmp 168) rfl gv _ rfl (by exact congrArg Value.agg (rndV_cells (vsAt ss (wsAt bs 64) t) (rd KK (t : Int)) (rd (wsAt bs 64) (t : Int))).symm) 73 _ HV3.out.blk HI.out HSZ.out HO.out ?_)
          go_wp2_with fail
          go_roundw
          case rel => exact ⟨t + 1, by omega, by go_num, ⟨HA3.out.otherRow hne.out _⟩, ⟨HV3.out.row _ rfl⟩, ⟨below_setRow HB3.out hgl.out _⟩⟩
          case measure => simp [intOf]; omega
        · obtain rfl : t = 64 := by omega
          clear ht hlt
          have HG0 := Aside0.mk (grown_of_below HB.out (some b))
          have HK0 : Aside0 (wr.heap[b]? = some (.cells (putTo cur (mixS ss bs) 0) T (0, 0))) := ⟨by rw [putTo_zero, HB.out.block b hblt]; exact HBl.out⟩
          have HV0 := HV
          have hgb : Aside0 (gv ≠ b) := ⟨by have := hgl.out; omega⟩
          clear HA HB HV
          go_wp2_with fail
          obtain ⟨wo2, rfl⟩ : ∃ wo : World, wo = wr := ⟨_, rfl⟩
          go_loopw [170] (fun v w3 => ∃ t : Nat, t ≤ 8 ∧ v = .int .i64 t ∧ Aside0 (Arr w3 gv 73 8 (vsAt ss (wsAt bs 64) 64)) ∧ Aside0 (w.grownBy w3 (some b)) ∧ Aside0 (w3.heap[b]? = some (.cells (putTo cur (mixS ss bs) t) T (0, 0)))) (fun v _ => 8 - (intOf v).toNat)
          case atStart => exact ⟨0, by omega, rfl, HV0, HG0, HK0⟩
          case round =>
            clear HV0 HG0 HK0
            obtain ⟨t, ht, rfl, HV, HG, HK⟩ := hrel
            by_cases hlt : t < 8
            · have hcs : t < cur.size := (Array.getElem?_eq_some_iff.1 (HCu.out t hlt)).1
              have d0 : wr.cell? ⟨b, t, none⟩ = some (.int .u32 (rd ss (t : Int))) := by
                rw [cell_of_row wr b t _ T (0, 0) HK.out, putTo_at t (Nat.le_refl _) (by rw [mixS_length]; omega)]
                exact HCu.out t hlt
              have d1 := HV.out.cell t hlt
              have f0 : wr.frozen? ⟨b, t, none⟩ = false := frozen_of_row wr b t _ T HK.out
              go_wp2_with fail
              go_still_tail 11, (by kernel_rfl)
              change wpList _ _ _ _ _ wr.drew
              go_wp2_with fail
              have HN : Aside0 (∃ t_1 : Nat, t_1 ≤ 8 ∧ Value.int .i64 ((t : Int) + 1) = .int .i64 (t_1 : Int) ∧ Aside0 (Arr (wr.setCell ⟨b, t, none⟩ (.int .u32 ((rd ss (t : Int) + rd (vsAt ss (wsAt bs 64) 64) (t : Int)) % 4294967296))).drew gv 73 8 (vsAt ss (wsAt bs 64) 64)) ∧ Aside0 (w.grownBy (wr.setCell ⟨b, t, none⟩ (.int .u32 ((rd ss (t : Int) + rd (vsAt ss (wsAt bs 64) 64) (t : Int)) % 4294967296))).drew (some b)) ∧ Aside0 ((wr.setCell ⟨b, t, none⟩ (.int .u32 ((rd ss (t : Int) + rd (vsAt ss (wsAt bs 64) 64) (t : Int)) % 4294967296))).drew.heap[b]? = some (.cells (putTo cur (mixS ss bs) (t_1 : Nat)) T (0, 0)))) := by
                refine ⟨t + 1, by omega, by go_num, ⟨(HV.out.other hgb.out _).drew⟩, ⟨grown_put HG.out _ _⟩, ⟨?_⟩⟩
                show (wr.setCell ⟨b, t, none⟩ _).heap[b]? = _
                rw [heap_setCell_at HK.out, ← putTo_succ (by rw [mixS_length]; omega) hcs, mixS_at ss bs t hlt]
                rfl
              go_roundw
              case rel => first | exact HN.out | ((repeat apply Exists.intro); exact ⟨HN.out, rfl⟩)
              case measure => simp [intOf]; omega
            · obtain rfl : t = 8 := by omega
              go_wp2_with fail
              go_end0
              exact ⟨rfl, HG.out, HK.out⟩
end Go.Proofs.Ytffcegbcjkhnoaa.PC
