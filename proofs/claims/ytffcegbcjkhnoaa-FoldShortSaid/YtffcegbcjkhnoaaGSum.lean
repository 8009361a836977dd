/- The contract of sha256.Sum: for every row of up to 10^9 bytes, the digest, in memory of its own. -/
import Derived.Test.YtffcegbcjkhnoaaGHSum
namespace Go.Proofs.Ytffcegbcjkhnoaa.PC
open Go.RowKit Go.Proofs.YtffcegbcjkhnoaaW.PrintWords Go.Proofs.YtffcegbcjkhnoaaW.PrintLast Go.Proofs.YtffcegbcjkhnoaaW.PrintMore
set_option linter.unusedVariables false
set_option linter.unusedSimpArgs false
/-- The last blocks: the rest of l and what fills it. -/
def endS (l : List Int) : List Int := l.drop (64 * (l.length / 64)) ++ padS l.length
def stateS (l : List Int) : List Int := takeK (takeK startL l (l.length / 64)) (endS l) ((endS l).length / 64)
def shaS (l : List Int) : List Int := outB (stateS l) 8
def sha256_Sum.f (l0 : List Int) : Option (List Int) := if l0.length ≤ 1000000000 then some (shaS l0) else none
set_option maxRecDepth 100000 in
theorem sha256_Sum.calls (A0 : Option Addr) (c0 : Nat) (l0 : List Int) (r : List Int) (w : World) (hr0 : Kd.C (Kd.int .u8) w A0 l0.length l0) (hc0 : l0.length ≤ c0) (h : sha256_Sum.f l0 = some r) :
    Calls Try.prog 34 #[.slice A0 l0.length c0] w fun e w' => ∃ v0_ : Value, e = .returned (v0_) ∧ Kd.R (Kd.int .u8) 5 w' w.heap.size (fun _ => True) v0_ r ∧ Below w.heap.size w w' := by
  unfold sha256_Sum.f at h
  by_cases hn : l0.length ≤ 1000000000
  · rw [if_pos hn, Option.some.injEq] at h
    subst h
    have HR0 := Aside0.mk hr0
    clear hr0
    go_enter Try.func34, Try.ntmps34
    go_wp2_with fail
    refine (new_calls w).mono ?_
    rintro e w1 ⟨g, rfl, hg, hh1, hb1⟩
    have HR1 := Aside0.mk (Kd.C_below HR0.out hb1)
    have hgl : g < w1.heap.size := (Array.getElem?_eq_some_iff.1 hh1).1
    have HH1 := Aside0.mk hh1
    have HB1 := Aside0.mk hb1
    clear hh1 hb1
    go_wp2_with fail
    refine (write_calls g 0 c0 none A0 startL [] l0 0 rfl (by simp) hn (by simp) hc0 (by omega) (by omega) w1 (Kd.C_nil _ _) HR1.out HH1.out (fun ad he _ => by cases he) (fun ad he hp => ?_)).mono ?_
    · subst he
      have := Kd.C_lt HR0.out hp (by decide)
      omega
    rintro e w2 ⟨rfl, hg2, v2, hh2, hr2⟩
    rw [List.nil_append, Int.zero_add] at hh2
    rw [List.nil_append] at hr2
    obtain ⟨Av, cv, rfl⟩ := Kd.R_slice hr2
    have HH2 := Aside0.mk hh2
    have HR2 := Aside0.mk (Kd.R_reads' hr2).2
    have HB2 := Aside0.mk (HB1.out.grown hg2 HB1.out.size (by intro k hk; cases hk; exact hg))
    clear hh2 hr2 hg2
    go_wp2_with fail
    refine (hsum_calls g cv Av (takeK startL l0 (l0.length / 64)) (l0.drop (64 * (l0.length / 64))) l0.length (takeK_length _ _ rfl _) (by rw [List.length_drop]; omega) HR2.out.1 (by omega) (by omega) w2 HR2.out.2 HH2.out).mono ?_
    rintro e w3 ⟨v3, rfl, hr3, hb3⟩
    have HR3 := Aside0.mk (Kd.R_lower hr3 HB2.out.size)
    have HB3 := Aside0.mk (below_then HB2.out HB2.out.size hb3)
    clear hr3 hb3
    go_wp2_with fail
    go_ret
    exact ⟨v3, rfl, HR3.out, HB3.out⟩
  · rw [if_neg hn] at h
    cases h
end Go.Proofs.Ytffcegbcjkhnoaa.PC
