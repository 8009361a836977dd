/- The walk of the law Sha256Parts: it returns true for every rows of bytes. -/
import Derived.Test.YtffcegbcjkhnoaaGParts
namespace Go.Proofs.Ytffcegbcjkhnoaa.PC
open Go.RowKit Go.Proofs.YtffcegbcjkhnoaaW.PrintWords Go.Proofs.YtffcegbcjkhnoaaW.PrintLast Go.Proofs.YtffcegbcjkhnoaaW.PrintMore
set_option linter.unusedVariables false
set_option linter.unusedSimpArgs false
set_option maxRecDepth 100000 in
set_option maxHeartbeats 4000000 in
theorem chandlerylaw03_Sha256Parts.calls (A0 : Option Addr) (c0 : Nat) (ps : List (List Int)) (w : World)
    (hp : ∀ i : Nat, i < ps.length → ∃ ad Ai ci, A0 = some ad ∧ w.cell? (ad.add i) = some (.slice Ai (rd_L3 ps (i : Int)).length ci) ∧ (rd_L3 ps (i : Int)).length ≤ ci ∧ Kd.C (Kd.int .u8) w Ai (rd_L3 ps (i : Int)).length (rd_L3 ps (i : Int))) :
    Calls Try.prog 13 #[.slice A0 ps.length c0] w fun e w' => e = .returned (.bool true) ∧ Below w.heap.size w w' := by
  have HP := Aside0.mk hp
  clear hp
  by_cases hbig : 60 < ps.length
  · have hbi : (60 : Int) < (ps.length : Int) := by omega
    go_enter Try.func13, Try.ntmps13
    go_wp2_with fail
    go_ret
    exact ⟨rfl, Below.refl _ _⟩
  · have hbi : ¬ (60 : Int) < (ps.length : Int) := by omega
    go_enter Try.func13, Try.ntmps13
    go_wp2_with fail
    refine (new_calls w).mono ?_
    rintro e w1 ⟨g, rfl, hg, hh, hb⟩
    have HG := Aside0.mk hg
    have j0 : joinS ps 0 = [] := by simp [joinS]
    have HH1 := Aside0.mk (show HashAt w1 g (wordS (joinS ps 0)) (.slice none 0 0) (((joinS ps 0).length : Nat) : Int) by rw [j0]; exact hh)
    have HB1 := Aside0.mk hb
    clear hg hh hb
    go_wp2_with fail
    go_loopw [4, 5] (fun v x wr => ∃ (i : Nat) (A : Option Addr) (c : Nat) (vr : Value), i ≤ ps.length ∧ x = .int .i64 (i : Int) ∧ v = .slice A (joinS ps i).length c ∧ Aside0 ((joinS ps i).length ≤ 300 * i) ∧ Aside0 (Kd.R (Kd.int .u8) 5 wr w.heap.size (fun _ => True) v (joinS ps i)) ∧ Aside0 (Kd.R (Kd.int .u8) 5 wr w.heap.size (fun _ => True) vr (restS (joinS ps i))) ∧ Aside0 (HashAt wr g (wordS (joinS ps i)) vr (((joinS ps i).length : Nat) : Int)) ∧ Aside0 (v.ownBlock ≠ some g ∧ ∀ k, vr.ownBlock = some k → k ≠ g ∧ v.ownBlock ≠ some k) ∧ Aside0 (Below w.heap.size w wr)) (fun _ v _ => ps.length - (intOf v).toNat)
    case atStart => exact ⟨0, none, 0, .slice none 0 0, by omega, rfl, by rw [j0]; rfl, ⟨by simp [joinS]⟩, ⟨by rw [j0]; exact Kd.R_nil _ _ _ _ _⟩, ⟨by rw [j0]; exact Kd.R_nil _ _ _ _ _⟩, HH1, ⟨by simp [Value.ownBlock], fun k hk => by simp [Value.ownBlock] at hk⟩, HB1⟩
    case round =>
      clear HH1 HB1
      obtain ⟨i, A, c, vr, hi, rfl, rfl, HL, HA, HT, HH, HD, HB⟩ := hrel
      by_cases hlt : i < ps.length
      · have hili : (i : Int) < (ps.length : Int) := by omega
        obtain ⟨ad, Ai, ci, rfl, hcell, hci, hC⟩ := HP.out i hlt
        have HJ := Aside0.mk (joinS_succ ps i hlt)
        have HCE := Aside0.mk hcell
        have HCI := Aside0.mk hci
        have HCC := Aside0.mk hC
        clear hcell hci hC
        generalize rd_L3 ps (i : Int) = L at HJ HCE HCI HCC
        generalize joinS ps i = al at HL HA HT HH HD HJ ⊢
        have pc := pw_cell_below HB.out HCE.out
        by_cases h300 : 300 < L.length
        · have h3 : (300 : Int) < (L.length : Int) := by omega
          go_wp2_with fail
          go_ret
          exact ⟨rfl, HB.out⟩
        · have h3 : ¬ (300 : Int) < (L.length : Int) := by omega
          have hgr : Aside0 (g < wr.heap.size) := ⟨HH.out.lt⟩
          go_upto_region 13 with (first | ((with_reducible refine gate_dst (N := 33) rfl ?_); refine Kd.R_lit (Kd.int .u8) _ 5 ?hg (N := 33) ?hd (xs := ([] : List Int)) (inner := []) (ok := fun _ => True) (okp := fun _ => True) ?hr ?hp (fun _ hk => hk) trivial (Below.refl _ _) (Nat.le_refl _) (by simp) ?_; (case hd => rfl); (case hg => rfl); (case hr => first | (go_simp; done) | (go_simp; rfl)); (case hp => exact (Reps.none _ _)); intro v33 w2 ho hb2 hgg hnew; have HO2 := Aside0.mk ho; have HD2 := Aside0.mk hb2; have pc2 := pw_cell_below hb2 pc; clear hgg hnew ho hb2 pc) | ((with_reducible refine gate_builtin (b := .append) (xs := #[.tmp 33, .tmp 37]) rfl ?_); at_builtin; refine Kd.R_append_rows (Kd.int .u8) (w0 := wr) wr.heap.size rfl (.tmp 33) (.tmp 37) 22 5 (.int .u8 0) 1 rfl Try.underlying22 info5 rfl (by decide) (by omega) v33 ([] : List Int) L _ _ _ (fun _ => True) (fun _ => False) rfl rfl ?aO ?aR (fun _ _ h => h) (fun _ h => h.elim) ?aF ?aB ?aS ?aL ?_; (case aR => exact Kd.C_below (Kd.C_below HCC.out HB.out) HD2.out); (case aB => exact HD2.out); (case aF => exact (fun _ _ => trivial)); (case aO => exact HO2.out); (case aS => exact HD2.out.size); (case aL => simp only [List.length_nil]; omega); intro v38 w3 ho hb3 hg3 hat; rw [List.nil_append] at ho; have HO3 := Aside0.mk ho; have HD3 := Aside0.mk hb3; clear HO2 HD2 ho hb3 hg3 hat pc2; obtain ⟨Ao, co, eo⟩ := Kd.R_slice HO3.out; subst eo))
          obtain ⟨Ar, cr, rfl⟩ := Kd.R_slice HT.out
          have HA3 := Aside0.mk (Kd.R_below HA.out HD3.out)
          have HT3 := Aside0.mk (Kd.R_below HT.out HD3.out)
          have HH3 := Aside0.mk (HH.out.below HD3.out)
          have HB3 := Aside0.mk (below_then HB.out HB.out.size HD3.out)
          have KA := Aside0.mk (Kd.R_lt HA.out)
          have KO := Aside0.mk (Kd.R_base HO3.out)
          have KO3 := Aside0.mk (Kd.R_lt HO3.out)
          have S3 := Aside0.mk HD3.out.size
          have hal := HL.out
          have hrl := restS_length al
          have hw := write_calls g cr co Ar Ao (wordS al) (restS al) L ((al.length : Nat) : Int) (wordS_length al) (by omega) (by omega) (Kd.R_reads' HT3.out).2.1 (Kd.R_reads' HO3.out).2.1 (by omega) (by omega) w3 (Kd.R_reads' HT3.out).2.2 (Kd.R_reads' HO3.out).2.2 HH3.out (fun ad2 he h0 => by
            subst he
            exact (HD.out.2 ad2.block rfl).1) (fun ad2 he h0 => by
            subst he
            have h1 := KO.out ad2.block rfl
            have h2 := hgr.out
            omega)
          clear HA HT HH HB HD3 hal hrl
          go_wp2_with fail
          refine hw.mono ?_
          clear hw
          rintro e w4 ⟨rfl, hg4, v4, hh4, hr4⟩
          rw [(step_words al L).1, show ((al.length : Nat) : Int) + ((L.length : Nat) : Int) = (((al ++ L).length : Nat) : Int) by rw [List.length_append]; omega] at hh4
          rw [(step_words al L).2] at hr4
          have hgw : w.heap.size ≤ g := HG.out
          have HA4 := Aside0.mk (R_keepG HA3.out hg4 (fun k hk he => HD.out.1 (by rw [hk]; exact he)))
          have HO4 := Aside0.mk (R_keepG HO3.out hg4 (fun k hk he => by
            have h1 := KO.out k hk
            have h2 := hgr.out
            injection he with he
            omega))
          have HT4 := Aside0.mk (Kd.R_lower hr4 HB3.out.size)
          have KT := Aside0.mk (Kd.R_base hr4)
          have KT4 := Aside0.mk (Kd.R_lt hr4)
          have HH4 := Aside0.mk hh4
          have HB4 := Aside0.mk (HB3.out.grown hg4 HB3.out.size (fun k hk => by cases hk; exact hgw))
          have S4 := Aside0.mk hg4.size
          clear HA3 HT3 HH3 HB3 HO3 hh4 hr4 hg4
          have pc4 := pw_cell_below HB4.out HCE.out
          go_upto_region 16 with ((with_reducible refine gate_builtin (b := .append) (xs := #[.tmp 43, .tmp 47]) rfl ?_); at_builtin; refine Kd.R_append_rows (Kd.int .u8) (w0 := w) w.heap.size rfl (.tmp 43) (.tmp 47) 22 5 (.int .u8 0) 1 rfl Try.underlying22 info5 rfl (by decide) (by omega) (.slice A al.length c) al L _ _ _ (fun _ => True) (fun _ => False) rfl rfl ?aO ?aR (fun _ _ h => h) (fun _ h => h.elim) ?aF ?aB ?aS ?aL ?_; (case aR => exact Kd.C_below HCC.out HB4.out); (case aB => exact HB4.out); (case aF => exact (fun _ _ => trivial)); (case aO => exact HA4.out); (case aS => exact HB4.out.size); (case aL => have := HL.out; omega); intro v5 w5 ho hb5 hg5 hat5; have HA5 := Aside0.mk ho; have HB5 := Aside0.mk hb5; have HG5 := Aside0.mk hg5; have HAT := Aside0.mk hat5; clear ho hb5 hg5 hat5 pc4)
          have HT5 := Aside0.mk (R_keepG HT4.out HG5.out (fun k hk he => by
            have h1 := KT.out k hk
            have h2 := KA.out k he.symm
            have h3 := S3.out
            omega))
          have HO5 := Aside0.mk (R_keepG HO4.out HG5.out (fun k hk he => by
            have h1 := KO.out k hk
            have h2 := KA.out k he.symm
            omega))
          have HH5 := Aside0.mk (HH4.out.keepG HG5.out (fun he => HD.out.1 he.symm))
          have N5 : Aside0 (v5.ownBlock ≠ some g ∧ (∀ k, v4.ownBlock = some k → k ≠ g ∧ v5.ownBlock ≠ some k ∧ (Value.slice Ao L.length co).ownBlock ≠ some k) ∧ ∀ k, (Value.slice Ao L.length co).ownBlock = some k → k ≠ g ∧ v5.ownBlock ≠ some k) := ⟨by
            have s3 := S3.out
            have s4 := S4.out
            have gr := hgr.out
            have hv5 : ∀ k, v5.ownBlock = some k → (Value.slice A al.length c).ownBlock = some k ∨ w4.heap.size ≤ k := fun k hk => by
              rcases HAT.out with h | ⟨b, hb, hle⟩
              · left
                rw [← h]
                exact hk
              · right
                rw [hb] at hk
                injection hk with hk
                omega
            refine ⟨fun h => ?_, fun k hk => ⟨?_, fun h => ?_, fun h => ?_⟩, fun k hk => ⟨?_, fun h => ?_⟩⟩
            · rcases hv5 g h with h1 | h1
              · exact HD.out.1 h1
              · omega
            · have h1 := KT.out k hk
              omega
            · have h0 := KT.out k hk
              have h4 := KT4.out k hk
              rcases hv5 k h with h1 | h1
              · have h2 := KA.out k h1
                omega
              · omega
            · have h0 := KT.out k hk
              have h1 := KO3.out k h
              omega
            · have h1 := KO.out k hk
              omega
            · have h0 := KO.out k hk
              have h00 := KO3.out k hk
              rcases hv5 k h with h1 | h1
              · have h2 := KA.out k h1
                omega
              · omega⟩
          have KOB : Aside0 (∀ k, (Value.slice Ao L.length co).ownBlock = some k → w.heap.size ≤ k) := ⟨fun k hk => by
            have h1 := KO.out k hk
            have h2 := hgr.out
            have h3 := HG.out
            omega⟩
          have HL5 : Aside0 ((al ++ L).length ≤ 300 * (i + 1)) := ⟨by
            have := HL.out
            rw [List.length_append]
            omega⟩
          clear HA4 HT4 HO4 HH4 HB4 HG5 HAT KA KO KO3 KT KT4 S3 S4 HD HL HCE HCI HCC hgr
          rw [HJ.out] at HA5 HT5 HH5 HL5
          clear HJ
          generalize hal2 : joinS ps (i + 1) = al2 at HA5 HT5 HH5 HL5 ⊢
          have HAL2 := Aside0.mk hal2
          clear hal2
          obtain ⟨A5, c5, rfl⟩ := Kd.R_slice HA5.out
          go_wp2_with fail
          go_loopw [7] (fun v w6 => ∃ k : Nat, k ≤ L.length ∧ v = .int .i64 (k : Int) ∧ Aside0 (w5.grownBy w6 (Value.slice Ao L.length co).ownBlock) ∧ Aside0 (∀ go, Ao = some ⟨go, 0, none⟩ → 0 < L.length → Bytes w6 go L.length)) (fun v _ => L.length - (intOf v).toNat)
          case atStart => exact ⟨0, by omega, rfl, ⟨grown_refl _ _⟩, ⟨fun go he h0 => by
            obtain ⟨g2, e2, hb2⟩ := Bytes.of_R HO5.out h0
            rw [he] at e2
            injection e2 with e2
            injection e2 with e2
            subst e2
            exact hb2⟩⟩
          case round =>
            obtain ⟨k, hk, rfl, HG6, HY⟩ := hrel
            by_cases hkl : k < L.length
            · have hki : (k : Int) < (L.length : Int) := by omega
              obtain ⟨go, eo, _⟩ := Bytes.of_R HO5.out (by omega)
              subst eo
              have hy := HY.out go rfl (by omega)
              obtain ⟨b, dk⟩ := hy.cell k hkl
              have fk := hy.free k
              have HY2 := Aside0.mk (hy.put k 7)
              clear hy
              go_wp2_with fail
              go_roundw
              case rel => exact ⟨k + 1, by omega, by go_num, ⟨grown_trans HG6.out (grown_set _ go k _)⟩, ⟨fun go2 he h0 => by
                injection he with he
                injection he with he
                subst he
                exact HY2.out⟩⟩
              case measure => simp [intOf]; omega
            · obtain rfl : k = L.length := by omega
              have HA6 := Aside0.mk (R_keepG HA5.out HG6.out (fun k hk he => (N5.out.2.2 k he.symm).2 hk))
              have HT6 := Aside0.mk (R_keepG HT5.out HG6.out (fun k hk he => (N5.out.2.1 k hk).2.2 he.symm))
              have HH6 := Aside0.mk (HH5.out.keepG HG6.out (fun he => (N5.out.2.2 g he.symm).1 rfl))
              have HB6 := Aside0.mk (HB5.out.grown HG6.out HB5.out.size KOB.out)
              have HD6 := Aside0.mk (show (Value.slice A5 al2.length c5).ownBlock ≠ some g ∧ ∀ k, v4.ownBlock = some k → k ≠ g ∧ (Value.slice A5 al2.length c5).ownBlock ≠ some k from ⟨N5.out.1, fun k hk => ⟨(N5.out.2.1 k hk).1, (N5.out.2.1 k hk).2.1⟩⟩)
              clear HA5 HT5 HH5 HB5 HO5 N5 KOB HG6 HY hk hkl
              have e3 : Int.tmod (i : Int) 3 = ((i % 3 : Nat) : Int) := by rw [Int.tmod_eq_emod_of_nonneg (by omega)]; rfl
              by_cases hm : i % 3 = 0
              · rw [hm] at e3
                obtain ⟨A4, c4, rfl⟩ := Kd.R_slice HT6.out
                go_wp2_with fail
                have h2 := HL5.out
                have hrl := restS_length al2
                refine (hsum_calls g c4 A4 (wordS al2) (restS al2) ((al2.length : Nat) : Int) (wordS_length al2) (by omega) (Kd.R_reads' HT6.out).2.1 (by omega) (by omega) wr (Kd.R_reads' HT6.out).2.2 HH6.out).mono ?_
                clear hrl
                rintro e w7 ⟨v8, rfl, hr8, hb8⟩
                rw [sha_end] at hr8
                have HA7 := Aside0.mk (Kd.R_below HA6.out hb8)
                have HT7 := Aside0.mk (Kd.R_below HT6.out hb8)
                have HH7 := Aside0.mk (HH6.out.below hb8)
                have HB7 := Aside0.mk (below_then HB6.out HB6.out.size hb8)
                have HR8 := Aside0.mk hr8
                clear HA6 HT6 HH6 HB6 hb8 hr8
                go_upto_region 22 with fail
                have hq := cvAt_own (Kd.R_drew HR8.out)
                refine start_ (n := 10) (S := CvAt v8 (shaS al2)) (ds := []) #[false, false, false, false, false, false, false, false, false, false] (by kernel_rfl) rfl rfl hq (fun hHeld => ?_)
                have HA8 := Aside0.mk (Kd.R_drew HA7.out)
                have HT8 := Aside0.mk (Kd.R_drew HT7.out)
                have HH8 : Aside0 (HashAt w7.drew g (wordS al2) (.slice A4 (restS al2).length c4) ((al2.length : Nat) : Int)) := ⟨HH7.out⟩
                have HB8 := Aside0.mk (below_drew1 HB7.out)
                have HR9 := Aside0.mk (Kd.R_drew HR8.out)
                clear HA7 HT7 HH7 HB7 HR8 hq
                generalize w7.drew = w8 at HA8 HT8 HH8 HB8 HR9 hHeld ⊢
                refine pure_ (i := 0) (N := some 66) (v := ?_) (a' := ?_) #[true, false, false, false, false, false, false, false, false, false] rfl rfl (by kernel_rfl) (fun _ _ _ h => h) (Or.inl ⟨by rfl, ?_⟩) ?_ ?_
                rotate_left
                · intro w'
                  go_simp
                  with_reducible rfl
                rotate_left
                · simp only [Act.put, List.setIfInBounds_toArray, List.set_cons_zero, List.set_cons_succ, i64_w, i32_w]
                  rfl
                refine pure_ (i := 1) (N := some 67) (v := ?_) (a' := ?_) #[true, true, false, false, false, false, false, false, false, false] rfl rfl (by kernel_rfl) (fun _ _ _ h => h) (Or.inl ⟨by rfl, ?_⟩) ?_ ?_
                rotate_left
                · intro w'
                  go_simp
                  with_reducible rfl
                rotate_left
                · simp only [Act.put, List.setIfInBounds_toArray, List.set_cons_zero, List.set_cons_succ, i64_w, i32_w]
                  rfl
                refine pure_ (i := 2) (N := some 68) (v := ?_) (a' := ?_) #[true, true, true, false, false, false, false, false, false, false] rfl rfl (by kernel_rfl) (fun _ _ _ h => h) (Or.inl ⟨by rfl, ?_⟩) ?_ ?_
                rotate_left
                · intro w'
                  go_simp
                  with_reducible rfl
                rotate_left
                · simp only [Act.put, List.setIfInBounds_toArray, List.set_cons_zero, List.set_cons_succ, i64_w, i32_w]
                  rfl
                refine pure_ (i := 3) (N := some 69) (v := ?_) (a' := ?_) #[true, true, true, true, false, false, false, false, false, false] rfl rfl (by kernel_rfl) (fun _ _ _ h => h) (Or.inl ⟨by rfl, ?_⟩) ?_ ?_
                rotate_left
                · intro w'
                  go_simp
                  with_reducible rfl
                rotate_left
                · simp only [Act.put, List.setIfInBounds_toArray, List.set_cons_zero, List.set_cons_succ, i64_w, i32_w]
                  rfl
                refine take_ (i := 4) (N := some 70) (v := ?_) (a' := ?_) #[true, true, true, true, true, false, false, false, false, false] rfl rfl (by kernel_rfl) (fun _ _ _ h => h) (Or.inl ⟨by rfl, ?_⟩) hHeld ?_ ?_
                rotate_left
                · intro w' s
                  have t0 := s.out
                  go_simp
                  with_reducible rfl
                rotate_left
                · simp only [Act.put, List.setIfInBounds_toArray, List.set_cons_zero, List.set_cons_succ, i64_w, i32_w]
                  rfl
                refine pure_ (i := 5) (N := some 71) (v := ?_) (a' := ?_) #[true, true, true, true, true, true, false, false, false, false] rfl rfl (by kernel_rfl) (fun _ _ _ h => h) (Or.inl ⟨by rfl, ?_⟩) ?_ ?_
                rotate_left
                · intro w'
                  go_simp
                  with_reducible rfl
                rotate_left
                · simp only [Act.put, List.setIfInBounds_toArray, List.set_cons_zero, List.set_cons_succ, i64_w, i32_w]
                  rfl
                refine one_ (i := 6) (N := some 72) #[true, true, true, true, true, true, true, false, false, false] rfl rfl (by kernel_rfl) (by decide) (fun K hK => ?_)
                refine goes_ Try.func34 (by kernel_rfl) rfl #[.slice A5 al2.length c5] (by rfl) rfl rfl (by first | rfl | (go_simp; done) | (simp [Act.eval]; done)) ?_
                have h2 := HL5.out
                refine (sha256_Sum.calls A5 c5 al2 (shaS al2) w8 (Kd.R_reads' HA8.out).2.2 (Kd.R_reads' HA8.out).2.1 (by rw [sha256_Sum.f, if_pos (by omega)])).mono ?_
                rintro e w9 ⟨v9, rfl, hr9, hb9⟩
                have HA9 := Aside0.mk (Kd.R_below HA8.out hb9)
                have HT9 := Aside0.mk (Kd.R_below HT8.out hb9)
                have HH9 := Aside0.mk (HH8.out.below hb9)
                have HB9 := Aside0.mk (below_then HB8.out HB8.out.size hb9)
                have hq9 := cvAt_own hr9
                refine ⟨_, rfl, hK.out _ _ (cvAt_own (Kd.R_below HR9.out hb9)) (fun hHeld => ?_)⟩
                clear HA8 HT8 HH8 HB8 HR9 hb9 hr9
                clear hK K
                refine norm_ (a' := ?_) ?_ ?_
                rotate_left
                · show Act.put _ (some 72) _ = _
                  simp only [Act.put, List.setIfInBounds_toArray, List.set_cons_zero, List.set_cons_succ, i64_w, i32_w]
                  rfl
                refine one_ (i := 7) (N := some 73) #[true, true, true, true, true, true, true, true, false, false] rfl rfl (by kernel_rfl) (by decide) (fun K hK => ?_)
                have t9 := hq9.out
                refine value_ (w1 := w9) (v := .string (strOfNums (shaS al2))) (by rfl) rfl (by first | (go_simp; done) | (go_simp; rfl)) ?_
                refine hK.out _ _ hHeld (fun hHeld => ?_)
                clear t9 hq9
                clear hK K
                refine norm_ (a' := ?_) ?_ ?_
                rotate_left
                · show Act.put _ (some 73) _ = _
                  simp only [Act.put, List.setIfInBounds_toArray, List.set_cons_zero, List.set_cons_succ, i64_w, i32_w]
                  rfl
                refine pure_ (i := 8) (N := some 74) (v := ?_) (a' := ?_) #[true, true, true, true, true, true, true, true, true, false] rfl rfl (by kernel_rfl) (fun _ _ _ h => h) (Or.inl ⟨by rfl, ?_⟩) ?_ ?_
                rotate_left
                · intro w'
                  go_simp
                  with_reducible rfl
                rotate_left
                · simp only [Act.put, List.setIfInBounds_toArray, List.set_cons_zero, List.set_cons_succ, i64_w, i32_w]
                  rfl
                refine pure_ (i := 9) (N := some 75) (v := ?_) (a' := ?_) #[true, true, true, true, true, true, true, true, true, true] rfl rfl (by kernel_rfl) (fun _ _ _ h => h) (Or.inl ⟨by rfl, ?_⟩) ?_ ?_
                rotate_left
                · intro w'
                  go_simp
                  with_reducible rfl
                rotate_left
                · simp only [Act.put, List.setIfInBounds_toArray, List.set_cons_zero, List.set_cons_succ, i64_w, i32_w]
                  rfl
                refine done_ (by kernel_rfl) ?_
                go_wp2_with fail
                go_roundw
                case rel => exact ⟨i + 1, A5, c5, .slice A4 (restS al2).length c4, by omega, by go_num, by rw [HAL2.out], by rw [HAL2.out]; exact ⟨HL5, HA9, HT9, HH9, HD6, HB9⟩⟩
                case measure => simp [intOf]; omega
              · have hm3 : ¬ ((i % 3 : Nat) : Int) = 0 := by omega
                go_wp2_with fail
                go_roundw
                case rel => exact ⟨i + 1, A5, c5, v4, by omega, by go_num, by rw [HAL2.out], by rw [HAL2.out]; exact ⟨HL5, HA6, HT6, HH6, HD6, HB6⟩⟩
                case measure => simp [intOf]; omega
      · obtain rfl : i = ps.length := by omega
        clear hi hlt
        generalize joinS ps ps.length = al at *
        obtain ⟨Ar, cr, rfl⟩ := Kd.R_slice HT.out
        go_wp2_with fail
        have hal := HL.out
        have hrl := restS_length al
        refine (hsum_calls g cr Ar (wordS al) (restS al) ((al.length : Nat) : Int) (wordS_length al) (by omega) (Kd.R_reads' HT.out).2.1 (by omega) (by omega) wr (Kd.R_reads' HT.out).2.2 HH.out).mono ?_
        clear hrl
        rintro e w7 ⟨v8, rfl, hr8, hb8⟩
        rw [sha_end] at hr8
        have HA7 := Aside0.mk (Kd.R_below HA.out hb8)
        have HB7 := Aside0.mk (below_then HB.out HB.out.size hb8)
        have HR8 := Aside0.mk hr8
        clear HA HT HH HD HB hb8 hr8
        go_wp2_with fail
        refine (hsum_none w7).mono ?_
        rintro e w7b ⟨rfl, rfl⟩
        go_upto_region 27 with fail
        have hq := cvAt_own (Kd.R_drew HR8.out)
        refine start_ (n := 28) (S := CvAt v8 (shaS al)) (ds := []) #[false, false, false, false, false, false, false, false, false, false, false, false, false, false, false, false, false, false, false, false, false, false, false, false, false, false, false, false] (by kernel_rfl) rfl rfl hq (fun hHeld => ?_)
        have HA8 := Aside0.mk (Kd.R_drew HA7.out)
        have HB8 := Aside0.mk (below_drew1 HB7.out)
        have HR9 := Aside0.mk (Kd.R_drew HR8.out)
        clear HA7 HB7 HR8 hq
        refine one_ (i := 0) (N := some 86) #[true, false, false, false, false, false, false, false, false, false, false, false, false, false, false, false, false, false, false, false, false, false, false, false, false, false, false, false] rfl rfl (by kernel_rfl) (by decide) (fun K hK => ?_)
        refine goes_ Try.func37 (by kernel_rfl) rfl #[] (by rfl) rfl rfl (by first | rfl | (go_simp; done) | (simp [Act.eval]; done)) ?_
        refine (chandlerylaw03_awake.calls true _ rfl).mono ?_
        rintro e w9 ⟨rfl, hb9⟩
        have HA9 := Aside0.mk (Kd.R_below HA8.out hb9)
        have HB9 := Aside0.mk (below_then HB8.out HB8.out.size hb9)
        have HRa := Aside0.mk (Kd.R_below HR9.out hb9)
        refine ⟨_, rfl, hK.out _ _ (cvAt_own HRa.out) (fun hHeld => ?_)⟩
        clear HA8 HB8 HR9 hb9
        clear hK K
        refine norm_ (a' := ?_) ?_ ?_
        rotate_left
        · show Act.put _ (some 86) _ = _
          simp only [Act.put, List.setIfInBounds_toArray, List.set_cons_zero, List.set_cons_succ, i64_w, i32_w]
          rfl
        refine pure_ (i := 1) (N := some 87) (v := ?_) (a' := ?_) #[true, true, false, false, false, false, false, false, false, false, false, false, false, false, false, false, false, false, false, false, false, false, false, false, false, false, false, false] rfl rfl (by kernel_rfl) (fun _ _ _ h => h) (Or.inl ⟨by rfl, ?_⟩) ?_ ?_
        rotate_left
        · intro w'
          go_simp
          with_reducible rfl
        rotate_left
        · simp only [Act.put, List.setIfInBounds_toArray, List.set_cons_zero, List.set_cons_succ, i64_w, i32_w]
          rfl
        refine pure_ (i := 2) (N := some 88) (v := ?_) (a' := ?_) #[true, true, true, false, false, false, false, false, false, false, false, false, false, false, false, false, false, false, false, false, false, false, false, false, false, false, false, false] rfl rfl (by kernel_rfl) (fun _ _ _ h => h) (Or.inl ⟨by rfl, ?_⟩) ?_ ?_
        rotate_left
        · intro w'
          go_simp
          with_reducible rfl
        rotate_left
        · simp only [Act.put, List.setIfInBounds_toArray, List.set_cons_zero, List.set_cons_succ, i64_w, i32_w]
          rfl
        refine pure_ (i := 3) (N := some 89) (v := ?_) (a' := ?_) #[true, true, true, true, false, false, false, false, false, false, false, false, false, false, false, false, false, false, false, false, false, false, false, false, false, false, false, false] rfl rfl (by kernel_rfl) (fun _ _ _ h => h) (Or.inl ⟨by rfl, ?_⟩) ?_ ?_
        rotate_left
        · intro w'
          go_simp
          with_reducible rfl
        rotate_left
        · simp only [Act.put, List.setIfInBounds_toArray, List.set_cons_zero, List.set_cons_succ, i64_w, i32_w]
          rfl
        refine pure_ (i := 4) (N := some 90) (v := ?_) (a' := ?_) #[true, true, true, true, true, false, false, false, false, false, false, false, false, false, false, false, false, false, false, false, false, false, false, false, false, false, false, false] rfl rfl (by kernel_rfl) (fun _ _ _ h => h) (Or.inl ⟨by rfl, ?_⟩) ?_ ?_
        rotate_left
        · intro w'
          go_simp
          with_reducible rfl
        rotate_left
        · simp only [Act.put, List.setIfInBounds_toArray, List.set_cons_zero, List.set_cons_succ, i64_w, i32_w]
          rfl
        refine pure_ (i := 5) (N := some 91) (v := ?_) (a' := ?_) #[true, true, true, true, true, true, false, false, false, false, false, false, false, false, false, false, false, false, false, false, false, false, false, false, false, false, false, false] rfl rfl (by kernel_rfl) (fun _ _ _ h => h) (Or.inl ⟨by rfl, ?_⟩) ?_ ?_
        rotate_left
        · intro w'
          go_simp
          with_reducible rfl
        rotate_left
        · simp only [Act.put, List.setIfInBounds_toArray, List.set_cons_zero, List.set_cons_succ, i64_w, i32_w]
          rfl
        refine pure_ (i := 6) (N := some 92) (v := ?_) (a' := ?_) #[true, true, true, true, true, true, true, false, false, false, false, false, false, false, false, false, false, false, false, false, false, false, false, false, false, false, false, false] rfl rfl (by kernel_rfl) (fun _ _ _ h => h) (Or.inl ⟨by rfl, ?_⟩) ?_ ?_
        rotate_left
        · intro w'
          go_simp
          with_reducible rfl
        rotate_left
        · simp only [Act.put, List.setIfInBounds_toArray, List.set_cons_zero, List.set_cons_succ, i64_w, i32_w]
          rfl
        refine take_ (i := 7) (N := some 93) (v := ?_) (a' := ?_) #[true, true, true, true, true, true, true, true, false, false, false, false, false, false, false, false, false, false, false, false, false, false, false, false, false, false, false, false] rfl rfl (by kernel_rfl) (fun _ _ _ h => h) (Or.inl ⟨by rfl, ?_⟩) hHeld ?_ ?_
        rotate_left
        · intro w' s
          have t0 := s.out
          go_simp
          with_reducible rfl
        rotate_left
        · simp only [Act.put, List.setIfInBounds_toArray, List.set_cons_zero, List.set_cons_succ, i64_w, i32_w]
          rfl
        refine pure_ (i := 8) (N := some 94) (v := ?_) (a' := ?_) #[true, true, true, true, true, true, true, true, true, false, false, false, false, false, false, false, false, false, false, false, false, false, false, false, false, false, false, false] rfl rfl (by kernel_rfl) (fun _ _ _ h => h) (Or.inl ⟨by rfl, ?_⟩) ?_ ?_
        rotate_left
        · intro w'
          go_simp
          with_reducible rfl
        rotate_left
        · simp only [Act.put, List.setIfInBounds_toArray, List.set_cons_zero, List.set_cons_succ, i64_w, i32_w]
          rfl
        refine one_ (i := 9) (N := some 95) #[true, true, true, true, true, true, true, true, true, true, false, false, false, false, false, false, false, false, false, false, false, false, false, false, false, false, false, false] rfl rfl (by kernel_rfl) (by decide) (fun K hK => ?_)
        refine goes_ Try.func34 (by kernel_rfl) rfl #[.slice A al.length c] (by rfl) rfl rfl (by first | rfl | (go_simp; done) | (simp [Act.eval]; done)) ?_
        refine (sha256_Sum.calls A c al (shaS al) w9 (Kd.R_reads' HA9.out).2.2 (Kd.R_reads' HA9.out).2.1 (by rw [sha256_Sum.f, if_pos (by omega)])).mono ?_
        rintro e wa ⟨v9, rfl, hr9, hba⟩
        have HBa := Aside0.mk (below_then HB9.out HB9.out.size hba)
        have hq9 := cvAt_own hr9
        refine ⟨_, rfl, hK.out _ _ (cvAt_own (Kd.R_below HRa.out hba)) (fun hHeld => ?_)⟩
        clear HA9 HB9 HRa hba hr9
        clear hK K
        refine norm_ (a' := ?_) ?_ ?_
        rotate_left
        · show Act.put _ (some 95) _ = _
          simp only [Act.put, List.setIfInBounds_toArray, List.set_cons_zero, List.set_cons_succ, i64_w, i32_w]
          rfl
        refine one_ (i := 10) (N := some 96) #[true, true, true, true, true, true, true, true, true, true, true, false, false, false, false, false, false, false, false, false, false, false, false, false, false, false, false, false] rfl rfl (by kernel_rfl) (by decide) (fun K hK => ?_)
        have t9 := hq9.out
        refine value_ (w1 := wa) (v := .string (strOfNums (shaS al))) (by rfl) rfl (by first | (go_simp; done) | (go_simp; rfl)) ?_
        refine hK.out _ _ hHeld (fun hHeld => ?_)
        clear t9 hq9
        clear hK K
        refine norm_ (a' := ?_) ?_ ?_
        rotate_left
        · show Act.put _ (some 96) _ = _
          simp only [Act.put, List.setIfInBounds_toArray, List.set_cons_zero, List.set_cons_succ, i64_w, i32_w]
          rfl
        refine pure_ (i := 11) (N := some 97) (v := ?_) (a' := ?_) #[true, true, true, true, true, true, true, true, true, true, true, true, false, false, false, false, false, false, false, false, false, false, false, false, false, false, false, false] rfl rfl (by kernel_rfl) (fun _ _ _ h => h) (Or.inl ⟨by rfl, ?_⟩) ?_ ?_
        rotate_left
        · intro w'
          go_simp
          with_reducible rfl
        rotate_left
        · simp only [Act.put, List.setIfInBounds_toArray, List.set_cons_zero, List.set_cons_succ, i64_w, i32_w]
          rfl
        refine pure_ (i := 12) (N := some 98) (v := ?_) (a' := ?_) #[true, true, true, true, true, true, true, true, true, true, true, true, true, false, false, false, false, false, false, false, false, false, false, false, false, false, false, false] rfl rfl (by kernel_rfl) (fun _ _ _ h => h) (Or.inl ⟨by rfl, ?_⟩) ?_ ?_
        rotate_left
        · intro w'
          go_simp
          with_reducible rfl
        rotate_left
        · simp only [Act.put, List.setIfInBounds_toArray, List.set_cons_zero, List.set_cons_succ, i64_w, i32_w]
          rfl
        refine pure_ (i := 13) (N := some 99) (v := ?_) (a' := ?_) #[true, true, true, true, true, true, true, true, true, true, true, true, true, true, false, false, false, false, false, false, false, false, false, false, false, false, false, false] rfl rfl (by kernel_rfl) (fun _ _ _ h => h) (Or.inl ⟨by rfl, ?_⟩) ?_ ?_
        rotate_left
        · intro w'
          go_simp
          with_reducible rfl
        rotate_left
        · simp only [Act.put, List.setIfInBounds_toArray, List.set_cons_zero, List.set_cons_succ, i64_w, i32_w]
          rfl
        refine pure_ (i := 14) (N := some 100) (v := ?_) (a' := ?_) #[true, true, true, true, true, true, true, true, true, true, true, true, true, true, true, false, false, false, false, false, false, false, false, false, false, false, false, false] rfl rfl (by kernel_rfl) (fun _ _ _ h => h) (Or.inl ⟨by rfl, ?_⟩) ?_ ?_
        rotate_left
        · intro w'
          go_simp
          with_reducible rfl
        rotate_left
        · simp only [Act.put, List.setIfInBounds_toArray, List.set_cons_zero, List.set_cons_succ, i64_w, i32_w]
          rfl
        refine pure_ (i := 15) (N := some 101) (v := ?_) (a' := ?_) #[true, true, true, true, true, true, true, true, true, true, true, true, true, true, true, true, false, false, false, false, false, false, false, false, false, false, false, false] rfl rfl (by kernel_rfl) (fun _ _ _ h => h) (Or.inl ⟨by rfl, ?_⟩) ?_ ?_
        rotate_left
        · intro w'
          go_simp
          with_reducible rfl
        rotate_left
        · simp only [Act.put, List.setIfInBounds_toArray, List.set_cons_zero, List.set_cons_succ, i64_w, i32_w]
          rfl
        refine pure_ (i := 16) (N := some 102) (v := ?_) (a' := ?_) #[true, true, true, true, true, true, true, true, true, true, true, true, true, true, true, true, true, false, false, false, false, false, false, false, false, false, false, false] rfl rfl (by kernel_rfl) (fun _ _ _ h => h) (Or.inl ⟨by rfl, ?_⟩) ?_ ?_
        rotate_left
        · intro w'
          go_simp
          with_reducible rfl
        rotate_left
        · simp only [Act.put, List.setIfInBounds_toArray, List.set_cons_zero, List.set_cons_succ, i64_w, i32_w]
          rfl
        refine pure_ (i := 17) (N := some 103) (v := ?_) (a' := ?_) #[true, true, true, true, true, true, true, true, true, true, true, true, true, true, true, true, true, true, false, false, false, false, false, false, false, false, false, false] rfl rfl (by kernel_rfl) (fun _ _ _ h => h) (Or.inl ⟨by rfl, ?_⟩) ?_ ?_
        rotate_left
        · intro w'
          go_simp
          with_reducible rfl
        rotate_left
        · simp only [Act.put, List.setIfInBounds_toArray, List.set_cons_zero, List.set_cons_succ, i64_w, i32_w]
          rfl
        refine pure_ (i := 18) (N := some 104) (v := ?_) (a' := ?_) #[true, true, true, true, true, true, true, true, true, true, true, true, true, true, true, true, true, true, true, false, false, false, false, false, false, false, false, false] rfl rfl (by kernel_rfl) (fun _ _ _ h => h) (Or.inl ⟨by rfl, ?_⟩) ?_ ?_
        rotate_left
        · intro w'
          go_simp
          with_reducible rfl
        rotate_left
        · simp only [Act.put, List.setIfInBounds_toArray, List.set_cons_zero, List.set_cons_succ, i64_w, i32_w]
          rfl
        refine pure_ (i := 19) (N := some 105) (v := ?_) (a' := ?_) #[true, true, true, true, true, true, true, true, true, true, true, true, true, true, true, true, true, true, true, true, false, false, false, false, false, false, false, false] rfl rfl (by kernel_rfl) (fun _ _ _ h => h) (Or.inl ⟨by rfl, ?_⟩) ?_ ?_
        rotate_left
        · intro w'
          go_simp
          with_reducible rfl
        rotate_left
        · simp only [Act.put, List.setIfInBounds_toArray, List.set_cons_zero, List.set_cons_succ, i64_w, i32_w]
          rfl
        refine pure_ (i := 20) (N := some 106) (v := ?_) (a' := ?_) #[true, true, true, true, true, true, true, true, true, true, true, true, true, true, true, true, true, true, true, true, true, false, false, false, false, false, false, false] rfl rfl (by kernel_rfl) (fun _ _ _ h => h) (Or.inl ⟨by rfl, ?_⟩) ?_ ?_
        rotate_left
        · intro w'
          go_simp
          with_reducible rfl
        rotate_left
        · simp only [Act.put, List.setIfInBounds_toArray, List.set_cons_zero, List.set_cons_succ, i64_w, i32_w]
          rfl
        refine pure_ (i := 21) (N := some 107) (v := ?_) (a' := ?_) #[true, true, true, true, true, true, true, true, true, true, true, true, true, true, true, true, true, true, true, true, true, true, false, false, false, false, false, false] rfl rfl (by kernel_rfl) (fun _ _ _ h => h) (Or.inl ⟨by rfl, ?_⟩) ?_ ?_
        rotate_left
        · intro w'
          go_simp
          with_reducible rfl
        rotate_left
        · simp only [Act.put, List.setIfInBounds_toArray, List.set_cons_zero, List.set_cons_succ, i64_w, i32_w]
          rfl
        refine pure_ (i := 22) (N := some 108) (v := ?_) (a' := ?_) #[true, true, true, true, true, true, true, true, true, true, true, true, true, true, true, true, true, true, true, true, true, true, true, false, false, false, false, false] rfl rfl (by kernel_rfl) (fun _ _ _ h => h) (Or.inl ⟨by rfl, ?_⟩) ?_ ?_
        rotate_left
        · intro w'
          go_simp
          with_reducible rfl
        rotate_left
        · simp only [Act.put, List.setIfInBounds_toArray, List.set_cons_zero, List.set_cons_succ, i64_w, i32_w]
          rfl
        refine pure_ (i := 23) (N := some 109) (v := ?_) (a' := ?_) #[true, true, true, true, true, true, true, true, true, true, true, true, true, true, true, true, true, true, true, true, true, true, true, true, false, false, false, false] rfl rfl (by kernel_rfl) (fun _ _ _ h => h) (Or.inl ⟨by rfl, ?_⟩) ?_ ?_
        rotate_left
        · intro w'
          go_simp
          with_reducible rfl
        rotate_left
        · simp only [Act.put, List.setIfInBounds_toArray, List.set_cons_zero, List.set_cons_succ, i64_w, i32_w]
          rfl
        refine one_ (i := 24) (N := some 110) #[true, true, true, true, true, true, true, true, true, true, true, true, true, true, true, true, true, true, true, true, true, true, true, true, true, false, false, false] rfl rfl (by kernel_rfl) (by decide) (fun K hK => ?_)
        refine goes_ Try.func41 (by kernel_rfl) rfl #[.pointer none, .slice none 0 0] (by rfl) rfl rfl (by first | rfl | (go_simp; done) | (simp [Act.eval]; done)) ?_
        refine (write_none wa).mono ?_
        rintro e wb ⟨rfl, rfl⟩
        refine ⟨_, rfl, hK.out _ _ hHeld (fun hHeld => ?_)⟩
        clear hK K
        refine norm_ (a' := ?_) ?_ ?_
        rotate_left
        · show Act.put _ (some 110) _ = _
          simp only [Act.put, List.setIfInBounds_toArray, List.set_cons_zero, List.set_cons_succ, i64_w, i32_w]
          rfl
        refine pure_ (i := 25) (N := some 111) (v := ?_) (a' := ?_) #[true, true, true, true, true, true, true, true, true, true, true, true, true, true, true, true, true, true, true, true, true, true, true, true, true, true, false, false] rfl rfl (by kernel_rfl) (fun _ _ _ h => h) (Or.inl ⟨by rfl, ?_⟩) ?_ ?_
        rotate_left
        · intro w'
          go_simp
          with_reducible rfl
        rotate_left
        · simp only [Act.put, List.setIfInBounds_toArray, List.set_cons_zero, List.set_cons_succ, i64_w, i32_w]
          rfl
        refine pure_ (i := 26) (N := some 112) (v := ?_) (a' := ?_) #[true, true, true, true, true, true, true, true, true, true, true, true, true, true, true, true, true, true, true, true, true, true, true, true, true, true, true, false] rfl rfl (by kernel_rfl) (fun _ _ _ h => h) (Or.inl ⟨by rfl, ?_⟩) ?_ ?_
        rotate_left
        · intro w'
          go_simp
          with_reducible rfl
        rotate_left
        · simp only [Act.put, List.setIfInBounds_toArray, List.set_cons_zero, List.set_cons_succ, i64_w, i32_w]
          rfl
        refine pure_ (i := 27) (N := some 2) (v := ?_) (a' := ?_) #[true, true, true, true, true, true, true, true, true, true, true, true, true, true, true, true, true, true, true, true, true, true, true, true, true, true, true, true] rfl rfl (by kernel_rfl) (fun _ _ _ h => h) (Or.inl ⟨by rfl, ?_⟩) ?_ ?_
        rotate_left
        · intro w'
          go_simp
          with_reducible rfl
        rotate_left
        · simp only [Act.put, List.setIfInBounds_toArray, List.set_cons_zero, List.set_cons_succ, i64_w, i32_w]
          rfl
        refine done_ (by kernel_rfl) ?_
        have HBb := HBa
        go_wp2_with fail
        go_ret
        exact ⟨rfl, HBb.out⟩
/-- Rows of rows that came in, as the walk wants them. -/
theorem parts_of_rows {w : World} {a : Addr} {len cap : Nat} {A : Nat → Option Addr} {L C : Nat → Nat} {Z : Nat → List Int} (hlc : len ≤ cap)
    (h : ∀ r, r < cap → w.cell? (a.add r) = some (.slice (A r) (L r) (C r)) ∧ L r ≤ C r ∧ C r ≤ maxLen ∧ (Z r).length = C r ∧ (∀ n ∈ Z r, (Lit.int .u8 n).wf = true) ∧ (A r = none → C r = 0) ∧
      ∀ a', A r = some a' → 0 ≤ a'.block ∧ ∀ c, c < C r → w.cell? (a'.add c) = some (.int .u8 ((Z r).getD c 0))) :
    ∃ ps : List (List Int), ps.length = len ∧ ∀ i : Nat, i < ps.length → ∃ ad Ai ci, some a = some ad ∧ w.cell? (ad.add i) = some (.slice Ai (rd_L3 ps (i : Int)).length ci) ∧ (rd_L3 ps (i : Int)).length ≤ ci ∧ Kd.C (Kd.int .u8) w Ai (rd_L3 ps (i : Int)).length (rd_L3 ps (i : Int)) := by
  refine ⟨(List.range len).map fun r => (Z r).take (L r), by simp, fun i hi => ?_⟩
  have hi2 : i < len := by simpa using hi
  obtain ⟨h1, h2, h3, h4, h5, h6, h7⟩ := h i (by omega)
  have e : rd_L3 ((List.range len).map fun r => (Z r).take (L r)) (i : Int) = (Z i).take (L i) := by
    simp [rd_L3, List.getD_eq_getElem?_getD, hi2]
  have hl : ((Z i).take (L i)).length = L i := by rw [List.length_take]; omega
  rw [e, hl]
  refine ⟨a, A i, C i, rfl, h1, h2, ?_⟩
  refine Kd.C_of_reads (d := 0) (h1 := fun _ => rfl) ⟨hl, by simp only [maxLen] at h3; omega, fun hn => ?_⟩
  cases hA : A i with
  | none =>
    have := h6 hA
    omega
  | some a' =>
    refine ⟨a', rfl, fun j hj => ?_⟩
    rw [(h7 a' hA).2 j (by omega)]
    rw [List.getD_eq_getElem?_getD, List.getD_eq_getElem?_getD, List.getElem?_take_of_lt hj]
end Go.Proofs.Ytffcegbcjkhnoaa.PC
