import Derived.Test.YtffcegbcjkhnoaaProg
import Derived.Below
import Derived.Deep.Draws
import Derived.Deep.AppendLies
import Derived.Maps.AppendAt
import Derived.OwnWalk
import Derived.Laws.BytesArg
import Derived.Laws.MakeOwn
import Derived.Laws.OwnMore
import Derived.Deep.OwnRows
import Derived.Tactics
import Derived.Lib.ConvBytes
import Derived.Laws.Slices
import Derived.WalkKit
import Derived.KernelRfl
import Derived.RowKit3
import Derived.Deep.LoopGhost
import Derived.Deep.QuietTactic
import Derived.BigQuiet
import Derived.WideLaws
import Derived.Deep.DeepCutAuto
import Derived.Deep.CutBlock
import Derived.Deep.RegionHeld3
import Derived.Laws.Rows
import Derived.Lib.AppendStr
import Derived.ArgAppend
import Derived.Laws.IdiomCopy
import Derived.OrdersHeld
import Derived.Laws.BitsLemmas
import Derived.RowKit
import Derived.Test.YtffcegbcjkhnoaaWWords
import Derived.Test.YtffcegbcjkhnoaaWLast
import Derived.Test.YtffcegbcjkhnoaaWTab
import Derived.Test.YtffcegbcjkhnoaaWFour
import Derived.Test.YtffcegbcjkhnoaaWQPut
import Derived.Test.YtffcegbcjkhnoaaWApart
import Derived.Test.YtffcegbcjkhnoaaWArr
import Derived.Test.YtffcegbcjkhnoaaWZeros
import Derived.Test.YtffcegbcjkhnoaaWFoot
import Derived.Test.YtffcegbcjkhnoaaWKept
import Derived.Test.YtffcegbcjkhnoaaWShare
import Derived.Test.YtffcegbcjkhnoaaWN
import Derived.Test.YtffcegbcjkhnoaaWFootNe
import Derived.Test.YtffcegbcjkhnoaaWAt
import Derived.Test.YtffcegbcjkhnoaaWEqStruct
import Derived.Test.YtffcegbcjkhnoaaWRepsOne
import Derived.Test.YtffcegbcjkhnoaaWInv
import Derived.Test.YtffcegbcjkhnoaaWInvWords
import Derived.Test.YtffcegbcjkhnoaaWGuard
import Derived.Test.YtffcegbcjkhnoaaWNEv
import Derived.Test.YtffcegbcjkhnoaaWMore
namespace Go.Proofs.Ytffcegbcjkhnoaa.PC
open Go.RowKit Go.Proofs.YtffcegbcjkhnoaaW.PrintWords Go.Proofs.YtffcegbcjkhnoaaW.PrintLast Go.Proofs.YtffcegbcjkhnoaaW.PrintMore
attribute [local go_sem] max2_int min2_int max_two min_two max_three min_three max_four min_four   -- for this text's walks alone
set_option linter.unusedVariables false
set_option linter.unusedSimpArgs false



def errW : Option Int → Value
  | none => .nilIface
  | some c => .iface 0 (.int .i64 c)
theorem errW_none : errW none = .nilIface := rfl
theorem errW_some (c : Int) : errW (some c) = .iface 0 (.int .i64 c) := rfl

theorem info3 : (Try.prog.info? 3).map (fun i => (i.zero, i.size, i.bytes)) = some (some (.int .i64 0), 1, 8) := by kernel_rfl
theorem info5 : (Try.prog.info? 5).map (fun i => (i.zero, i.size, i.bytes)) = some (some (.int .u8 0), 1, 1) := by kernel_rfl
-- the values' own types
def rd_L3 (xs : List (List Int)) (i : Int) : (List Int) := xs.getD i.toNat ([] : List Int)
theorem at_L3 {w : World} {A : Option Addr} {n : Nat} {xs : List (List Int)} (h : Kd.C (Kd.slice 5 (Kd.int .u8)) w A n xs) (i : Int) (h0 : 0 ≤ i) (h1 : i < n) : ∃ ad A0 c0, A = some ad ∧ w.cell? (ad.add i.toNat) = some (.slice A0 (rd_L3 xs i).length c0) ∧ (rd_L3 xs i).length ≤ c0 ∧ (Kd.int .u8).C w A0 (rd_L3 xs i).length (rd_L3 xs i) := by
  obtain ⟨ad, c, e, _, hK, hc0⟩ := Kd.C_get h ([] : List Int) i h0 h1
  have hc : ∀ j u, c[j]? = some u → w.cell? (ad.add (i.toNat * 1 + j)) = some u := hc0
  obtain ⟨A0, c0, rfl, l0, g0⟩ := hK
  exact ⟨ad, A0, c0, e, by have hq := hc 0 _ rfl; rwa [Nat.mul_one, Nat.add_zero] at hq, l0, g0⟩


/-- '[]byte' read as a string in this world. -/
structure CvAt (V : Value) (xs : List Int) (w : World) : Prop where mk :: (out : (convert 22 9 V).run Try.prog w = .ok (.string (strOfNums xs)) w)
theorem cvAt_own {w : World} {base : Nat} {ok : Nat → Prop} {v : Value} {xs : List Int} (h : Kd.R (Kd.int .u8) 5 w base ok v xs) : CvAt v xs w := ⟨own_string (P := Try.prog) Try.underlying22 Try.underlying5 Try.underlying9 (Kd.own_of_R h)⟩
theorem cvAt_read {w : World} {A : Option Addr} {n : Nat} {xs : List Int} (c : Nat) (h : Kd.C (Kd.int .u8) w A n xs) : CvAt (.slice A n c) xs w := ⟨Kd.C_string (P := Try.prog) (A := A) (c := c) Try.underlying22 Try.underlying5 Try.underlying9 h⟩
structure CvAnd (A B : World → Prop) (w : World) : Prop where mk :: (l : A w) (r : B w)

/-- 'xs[:j:j]'. -/
theorem cut_cap {P : Program} (t e : TypeId) (kh km : IntKind) {i : TypeInfo} (ht : P.underlying t = some (.slice e)) (hi : P.info? e = some i) (A : Option Addr) (n c : Nat) (j : Int) (h0 : 0 ≤ j) (hm : j ≤ n) (hc : n ≤ c) :
    ∀ W : World, (Instr.slice t (.slice A n c) none (some (.int kh j)) (some (.int km j))).run P W = .ok (.slice A j.toNat j.toNat) W := by
  intro W
  have hel : P.elem t = e := by simp [Program.elem, ht]
  have hu : P.underlying t = some (.slice (P.elem t)) := by rw [hel]; exact ht
  have ha : (A.map fun x => x.add 0) = A := by cases A <;> simp [Addr.add]
  rw [run_slice_hm W t A n c hu kh km j j h0 (Int.le_refl _) (by omega), hel]
  simp [sizeOf, typeInfo, hi, sliced, Result.andThen, ha]
end Go.Proofs.Ytffcegbcjkhnoaa.PC
