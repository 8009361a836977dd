/-
  No cell of these rows narrows 'for every input' (looked for: loops, veiled, ifaces, maps, wideKeys, modest, calm, conditions, laid).
  DERIVED. THE GIVEN ROWS OF THIS SEAT. 16 by the template 'for every input the law returns true; each argument reads behind the call as it read before'; 0 by the template 'total and deterministic' (their statements: YtffcegbcjkhnoaaTotals.lean).
  GIVEN WITH THE SEED: the statements are not yours to turn. If you find one false, say at which input.
  Laid BY PROGRAM, IN A SANDBOX (cutbox-rows.mjs): the forced cells as the released guide's own fill.sh prints them over the translation a11969c6dd575ea5… (all of the seat's roots in one cut). By AI agents, Wed Nov 11 2026. No macro, syntax, notation, axiom, sorry.
-/
import Derived.Test.YtffcegbcjkhnoaaChecked
import GoSem.Claim
import GoSem.ClaimJoined
import GoSem.ClaimMapViews
import Derived.JoinedTies
import Derived.KernelRfl
namespace Go.Proofs.Ytffcegbcjkhnoaa
/- THE CELL 'sum', in the pinned program and in every row, IS THE sha256 OF THE DUMP (.gsa) THAT YtffcegbcjkhnoaaProg.lean LOADS. Nothing in Lean hashes anything: it is a label: what it is worth is what the hold of that sum in a sandbox is worth. -/
noncomputable def Try.pinned : Pinned := { name := "ytffcegbcjkhnoaa", sum := "a11969c6dd575ea5b4108bad5960db712bf8023ee55a995b02747be5f42899b4", checked := Try.checked }
namespace Rows
def none {H : Type} : Left H := { results := [], args := [] }

/-- 'chandlerylaw01.WirePuts': WHATEVER THE INPUT: true; the input reads as it did. -/
def wirePutsSpec : ChangeSpec := { name := "wirePuts", fn := fun _ => fun
  | [d1, d2] => { results := [.lit (.bool true)], args := [d1, d2] }
  | _ => none }
def wirePutsRow : OpenClaim := { program := "ytffcegbcjkhnoaa", sum := "a11969c6dd575ea5b4108bad5960db712bf8023ee55a995b02747be5f42899b4", func := "chandlery/chandlerylaw01.WirePuts", spec := "wirePuts", apart := false }
def WirePutsSaid : Prop := wirePutsRow.holds Try.pinned (OpenSpec.ofChange wirePutsSpec)

/-- ITS FALSE NEIGHBOUR: 'it returns false'. Refute it at one input. -/
def wirePutsWrong : ChangeSpec := { name := "wirePuts", fn := fun _ => fun
  | [d1, d2] => { results := [.lit (.bool false)], args := [d1, d2] }
  | _ => none }
def WirePutsWrongFalsely : Prop := wirePutsRow.holds Try.pinned (OpenSpec.ofChange wirePutsWrong)

/-- 'chandlerylaw01.WireTells': WHATEVER THE INPUT: true; the input reads as it did. -/
def wireTellsSpec : ChangeSpec := { name := "wireTells", fn := fun _ => fun
  | [d1, d2] => { results := [.lit (.bool true)], args := [d1, d2] }
  | _ => none }
def wireTellsRow : OpenClaim := { program := "ytffcegbcjkhnoaa", sum := "a11969c6dd575ea5b4108bad5960db712bf8023ee55a995b02747be5f42899b4", func := "chandlery/chandlerylaw01.WireTells", spec := "wireTells", apart := false }
def WireTellsSaid : Prop := wireTellsRow.holds Try.pinned (OpenSpec.ofChange wireTellsSpec)

/-- ITS FALSE NEIGHBOUR: 'it returns false'. Refute it at one input. -/
def wireTellsWrong : ChangeSpec := { name := "wireTells", fn := fun _ => fun
  | [d1, d2] => { results := [.lit (.bool false)], args := [d1, d2] }
  | _ => none }
def WireTellsWrongFalsely : Prop := wireTellsRow.holds Try.pinned (OpenSpec.ofChange wireTellsWrong)

/-- 'chandlerylaw01.WireTexts': WHATEVER THE INPUT: true; the input reads as it did. -/
def wireTextsSpec : ChangeSpec := { name := "wireTexts", fn := fun _ => fun
  | [d1, d2, d3] => { results := [.lit (.bool true)], args := [d1, d2, d3] }
  | _ => none }
def wireTextsRow : OpenClaim := { program := "ytffcegbcjkhnoaa", sum := "a11969c6dd575ea5b4108bad5960db712bf8023ee55a995b02747be5f42899b4", func := "chandlery/chandlerylaw01.WireTexts", spec := "wireTexts", apart := false }
def WireTextsSaid : Prop := wireTextsRow.holds Try.pinned (OpenSpec.ofChange wireTextsSpec)

/-- ITS FALSE NEIGHBOUR: 'it returns false'. Refute it at one input. -/
def wireTextsWrong : ChangeSpec := { name := "wireTexts", fn := fun _ => fun
  | [d1, d2, d3] => { results := [.lit (.bool false)], args := [d1, d2, d3] }
  | _ => none }
def WireTextsWrongFalsely : Prop := wireTextsRow.holds Try.pinned (OpenSpec.ofChange wireTextsWrong)

/-- 'chandlerylaw01.WireAgain': WHATEVER THE INPUT: true; the input reads as it did. -/
def wireAgainSpec : ChangeSpec := { name := "wireAgain", fn := fun _ => fun
  | [d1, d2] => { results := [.lit (.bool true)], args := [d1, d2] }
  | _ => none }
def wireAgainRow : OpenClaim := { program := "ytffcegbcjkhnoaa", sum := "a11969c6dd575ea5b4108bad5960db712bf8023ee55a995b02747be5f42899b4", func := "chandlery/chandlerylaw01.WireAgain", spec := "wireAgain", apart := false }
def WireAgainSaid : Prop := wireAgainRow.holds Try.pinned (OpenSpec.ofChange wireAgainSpec)

/-- ITS FALSE NEIGHBOUR: 'it returns false'. Refute it at one input. -/
def wireAgainWrong : ChangeSpec := { name := "wireAgain", fn := fun _ => fun
  | [d1, d2] => { results := [.lit (.bool false)], args := [d1, d2] }
  | _ => none }
def WireAgainWrongFalsely : Prop := wireAgainRow.holds Try.pinned (OpenSpec.ofChange wireAgainWrong)

/-- 'chandlerylaw04.FoldBoth': WHATEVER THE INPUT: true; the input reads as it did. -/
def foldBothSpec : ChangeSpec := { name := "foldBoth", fn := fun _ => fun
  | [d1, d2, d3] => { results := [.lit (.bool true)], args := [d1, d2, d3] }
  | _ => none }
def foldBothRow : OpenClaim := { program := "ytffcegbcjkhnoaa", sum := "a11969c6dd575ea5b4108bad5960db712bf8023ee55a995b02747be5f42899b4", func := "chandlery/chandlerylaw04.FoldBoth", spec := "foldBoth", unfollowed := true, recurses := true, apart := false }
def FoldBothSaid : Prop := foldBothRow.holds Try.pinned (OpenSpec.ofChange foldBothSpec)

/-- ITS FALSE NEIGHBOUR: 'it returns false'. Refute it at one input. -/
def foldBothWrong : ChangeSpec := { name := "foldBoth", fn := fun _ => fun
  | [d1, d2, d3] => { results := [.lit (.bool false)], args := [d1, d2, d3] }
  | _ => none }
def FoldBothWrongFalsely : Prop := foldBothRow.holds Try.pinned (OpenSpec.ofChange foldBothWrong)

/-- 'chandlerylaw01.WireRows': WHATEVER THE INPUT: true; the input reads as it did. -/
def wireRowsSpec : ChangeSpec := { name := "wireRows", fn := fun _ => fun
  | [d] => { results := [.lit (.bool true)], args := [d] }
  | _ => none }
def wireRowsRow : OpenClaim := { program := "ytffcegbcjkhnoaa", sum := "a11969c6dd575ea5b4108bad5960db712bf8023ee55a995b02747be5f42899b4", func := "chandlery/chandlerylaw01.WireRows", spec := "wireRows", apart := false }
def WireRowsSaid : Prop := wireRowsRow.holds Try.pinned (OpenSpec.ofChange wireRowsSpec)

/-- ITS FALSE NEIGHBOUR: 'it returns false'. Refute it at one input. -/
def wireRowsWrong : ChangeSpec := { name := "wireRows", fn := fun _ => fun
  | [d] => { results := [.lit (.bool false)], args := [d] }
  | _ => none }
def WireRowsWrongFalsely : Prop := wireRowsRow.holds Try.pinned (OpenSpec.ofChange wireRowsWrong)

/-- 'chandlerylaw04.FoldShort': WHATEVER THE INPUT: true; the input reads as it did. -/
def foldShortSpec : ChangeSpec := { name := "foldShort", fn := fun _ => fun
  | [d] => { results := [.lit (.bool true)], args := [d] }
  | _ => none }
def foldShortRow : OpenClaim := { program := "ytffcegbcjkhnoaa", sum := "a11969c6dd575ea5b4108bad5960db712bf8023ee55a995b02747be5f42899b4", func := "chandlery/chandlerylaw04.FoldShort", spec := "foldShort", inPlace := ["internal/bytealg.IndexByteString"], unfollowed := true, recurses := true, apart := false }
def FoldShortSaid : Prop := foldShortRow.holds Try.pinned (OpenSpec.ofChange foldShortSpec)

/-- ITS FALSE NEIGHBOUR: 'it returns false'. Refute it at one input. -/
def foldShortWrong : ChangeSpec := { name := "foldShort", fn := fun _ => fun
  | [d] => { results := [.lit (.bool false)], args := [d] }
  | _ => none }
def FoldShortWrongFalsely : Prop := foldShortRow.holds Try.pinned (OpenSpec.ofChange foldShortWrong)

/-- 'chandlerylaw01.WireNumbers': WHATEVER THE INPUT: true; the input reads as it did. -/
def wireNumbersSpec : ChangeSpec := { name := "wireNumbers", fn := fun _ => fun
  | [d] => { results := [.lit (.bool true)], args := [d] }
  | _ => none }
def wireNumbersRow : OpenClaim := { program := "ytffcegbcjkhnoaa", sum := "a11969c6dd575ea5b4108bad5960db712bf8023ee55a995b02747be5f42899b4", func := "chandlery/chandlerylaw01.WireNumbers", spec := "wireNumbers", apart := false }
def WireNumbersSaid : Prop := wireNumbersRow.holds Try.pinned (OpenSpec.ofChange wireNumbersSpec)

/-- ITS FALSE NEIGHBOUR: 'it returns false'. Refute it at one input. -/
def wireNumbersWrong : ChangeSpec := { name := "wireNumbers", fn := fun _ => fun
  | [d] => { results := [.lit (.bool false)], args := [d] }
  | _ => none }
def WireNumbersWrongFalsely : Prop := wireNumbersRow.holds Try.pinned (OpenSpec.ofChange wireNumbersWrong)

/-- 'chandlerylaw03.Sha256Pads': WHATEVER THE INPUT: true; the input reads as it did. -/
def sha256PadsSpec : ChangeSpec := { name := "sha256Pads", fn := fun _ => fun
  | [d] => { results := [.lit (.bool true)], args := [d] }
  | _ => none }
def sha256PadsRow : OpenClaim := { program := "ytffcegbcjkhnoaa", sum := "a11969c6dd575ea5b4108bad5960db712bf8023ee55a995b02747be5f42899b4", func := "chandlery/chandlerylaw03.Sha256Pads", spec := "sha256Pads", unfollowed := true, recurses := true, apart := false }
def Sha256PadsSaid : Prop := sha256PadsRow.holds Try.pinned (OpenSpec.ofChange sha256PadsSpec)

/-- ITS FALSE NEIGHBOUR: 'it returns false'. Refute it at one input. -/
def sha256PadsWrong : ChangeSpec := { name := "sha256Pads", fn := fun _ => fun
  | [d] => { results := [.lit (.bool false)], args := [d] }
  | _ => none }
def Sha256PadsWrongFalsely : Prop := sha256PadsRow.holds Try.pinned (OpenSpec.ofChange sha256PadsWrong)

/-- 'chandlerylaw03.Sha256Sums': WHATEVER THE INPUT: true; the input reads as it did. -/
def sha256SumsSpec : ChangeSpec := { name := "sha256Sums", fn := fun _ => fun
  | [d] => { results := [.lit (.bool true)], args := [d] }
  | _ => none }
def sha256SumsRow : OpenClaim := { program := "ytffcegbcjkhnoaa", sum := "a11969c6dd575ea5b4108bad5960db712bf8023ee55a995b02747be5f42899b4", func := "chandlery/chandlerylaw03.Sha256Sums", spec := "sha256Sums", unfollowed := true, recurses := true, apart := false }
def Sha256SumsSaid : Prop := sha256SumsRow.holds Try.pinned (OpenSpec.ofChange sha256SumsSpec)

/-- ITS FALSE NEIGHBOUR: 'it returns false'. Refute it at one input. -/
def sha256SumsWrong : ChangeSpec := { name := "sha256Sums", fn := fun _ => fun
  | [d] => { results := [.lit (.bool false)], args := [d] }
  | _ => none }
def Sha256SumsWrongFalsely : Prop := sha256SumsRow.holds Try.pinned (OpenSpec.ofChange sha256SumsWrong)

/-- 'chandlerylaw03.Sha256Parts': WHATEVER THE INPUT: true; the input reads as it did. -/
def sha256PartsSpec : ChangeSpec := { name := "sha256Parts", fn := fun _ => fun
  | [d] => { results := [.lit (.bool true)], args := [d] }
  | _ => none }
def sha256PartsRow : OpenClaim := { program := "ytffcegbcjkhnoaa", sum := "a11969c6dd575ea5b4108bad5960db712bf8023ee55a995b02747be5f42899b4", func := "chandlery/chandlerylaw03.Sha256Parts", spec := "sha256Parts", unfollowed := true, recurses := true, apart := false }
def Sha256PartsSaid : Prop := sha256PartsRow.holds Try.pinned (OpenSpec.ofChange sha256PartsSpec)

/-- ITS FALSE NEIGHBOUR: 'it returns false'. Refute it at one input. -/
def sha256PartsWrong : ChangeSpec := { name := "sha256Parts", fn := fun _ => fun
  | [d] => { results := [.lit (.bool false)], args := [d] }
  | _ => none }
def Sha256PartsWrongFalsely : Prop := sha256PartsRow.holds Try.pinned (OpenSpec.ofChange sha256PartsWrong)

/-- 'chandlerylaw03.Sha256Mixes': WHATEVER THE INPUT: true; the input reads as it did. -/
def sha256MixesSpec : ChangeSpec := { name := "sha256Mixes", fn := fun _ => fun
  | [d1, d2] => { results := [.lit (.bool true)], args := [d1, d2] }
  | _ => none }
def sha256MixesRow : OpenClaim := { program := "ytffcegbcjkhnoaa", sum := "a11969c6dd575ea5b4108bad5960db712bf8023ee55a995b02747be5f42899b4", func := "chandlery/chandlerylaw03.Sha256Mixes", spec := "sha256Mixes", unfollowed := true, recurses := true, apart := false }
def Sha256MixesSaid : Prop := sha256MixesRow.holds Try.pinned (OpenSpec.ofChange sha256MixesSpec)

/-- ITS FALSE NEIGHBOUR: 'it returns false'. Refute it at one input. -/
def sha256MixesWrong : ChangeSpec := { name := "sha256Mixes", fn := fun _ => fun
  | [d1, d2] => { results := [.lit (.bool false)], args := [d1, d2] }
  | _ => none }
def Sha256MixesWrongFalsely : Prop := sha256MixesRow.holds Try.pinned (OpenSpec.ofChange sha256MixesWrong)

/-- 'chandlerylaw03.Sha256Steps': WHATEVER THE INPUT: true; the input reads as it did. -/
def sha256StepsSpec : ChangeSpec := { name := "sha256Steps", fn := fun _ => fun
  | [d] => { results := [.lit (.bool true)], args := [d] }
  | _ => none }
def sha256StepsRow : OpenClaim := { program := "ytffcegbcjkhnoaa", sum := "a11969c6dd575ea5b4108bad5960db712bf8023ee55a995b02747be5f42899b4", func := "chandlery/chandlerylaw03.Sha256Steps", spec := "sha256Steps", unfollowed := true, recurses := true, apart := false }
def Sha256StepsSaid : Prop := sha256StepsRow.holds Try.pinned (OpenSpec.ofChange sha256StepsSpec)

/-- ITS FALSE NEIGHBOUR: 'it returns false'. Refute it at one input. -/
def sha256StepsWrong : ChangeSpec := { name := "sha256Steps", fn := fun _ => fun
  | [d] => { results := [.lit (.bool false)], args := [d] }
  | _ => none }
def Sha256StepsWrongFalsely : Prop := sha256StepsRow.holds Try.pinned (OpenSpec.ofChange sha256StepsWrong)

/-- 'chandlerylaw04.FoldFolds': WHATEVER THE INPUT: true; the input reads as it did. -/
def foldFoldsSpec : ChangeSpec := { name := "foldFolds", fn := fun _ => fun
  | [d1, d2] => { results := [.lit (.bool true)], args := [d1, d2] }
  | _ => none }
def foldFoldsRow : OpenClaim := { program := "ytffcegbcjkhnoaa", sum := "a11969c6dd575ea5b4108bad5960db712bf8023ee55a995b02747be5f42899b4", func := "chandlery/chandlerylaw04.FoldFolds", spec := "foldFolds", unfollowed := true, recurses := true, apart := false }
def FoldFoldsSaid : Prop := foldFoldsRow.holds Try.pinned (OpenSpec.ofChange foldFoldsSpec)

/-- ITS FALSE NEIGHBOUR: 'it returns false'. Refute it at one input. -/
def foldFoldsWrong : ChangeSpec := { name := "foldFolds", fn := fun _ => fun
  | [d1, d2] => { results := [.lit (.bool false)], args := [d1, d2] }
  | _ => none }
def FoldFoldsWrongFalsely : Prop := foldFoldsRow.holds Try.pinned (OpenSpec.ofChange foldFoldsWrong)

/-- 'chandlerylaw04.FoldCrc': WHATEVER THE INPUT: true; the input reads as it did. -/
def foldCrcSpec : ChangeSpec := { name := "foldCrc", fn := fun _ => fun
  | [d1, d2] => { results := [.lit (.bool true)], args := [d1, d2] }
  | _ => none }
def foldCrcRow : OpenClaim := { program := "ytffcegbcjkhnoaa", sum := "a11969c6dd575ea5b4108bad5960db712bf8023ee55a995b02747be5f42899b4", func := "chandlery/chandlerylaw04.FoldCrc", spec := "foldCrc", unfollowed := true, recurses := true, apart := false }
def FoldCrcSaid : Prop := foldCrcRow.holds Try.pinned (OpenSpec.ofChange foldCrcSpec)

/-- ITS FALSE NEIGHBOUR: 'it returns false'. Refute it at one input. -/
def foldCrcWrong : ChangeSpec := { name := "foldCrc", fn := fun _ => fun
  | [d1, d2] => { results := [.lit (.bool false)], args := [d1, d2] }
  | _ => none }
def FoldCrcWrongFalsely : Prop := foldCrcRow.holds Try.pinned (OpenSpec.ofChange foldCrcWrong)

/-- 'chandlerylaw04.FoldLinear': WHATEVER THE INPUT: true; the input reads as it did. -/
def foldLinearSpec : ChangeSpec := { name := "foldLinear", fn := fun _ => fun
  | [d1, d2, d3] => { results := [.lit (.bool true)], args := [d1, d2, d3] }
  | _ => none }
def foldLinearRow : OpenClaim := { program := "ytffcegbcjkhnoaa", sum := "a11969c6dd575ea5b4108bad5960db712bf8023ee55a995b02747be5f42899b4", func := "chandlery/chandlerylaw04.FoldLinear", spec := "foldLinear", unfollowed := true, recurses := true, apart := false }
def FoldLinearSaid : Prop := foldLinearRow.holds Try.pinned (OpenSpec.ofChange foldLinearSpec)

/-- ITS FALSE NEIGHBOUR: 'it returns false'. Refute it at one input. -/
def foldLinearWrong : ChangeSpec := { name := "foldLinear", fn := fun _ => fun
  | [d1, d2, d3] => { results := [.lit (.bool false)], args := [d1, d2, d3] }
  | _ => none }
def FoldLinearWrongFalsely : Prop := foldLinearRow.holds Try.pinned (OpenSpec.ofChange foldLinearWrong)

/- THE SECOND FORM. 'bulk': how many values and letters a reading holds, each counted each time it is reached (what is shared counts as often as it is met; a slice's spare places count too). A statement '..UptoSaid' is the law's where the arguments, and the package variables that the reading takes, are together of bulk at most 1048576: NARROWER than '..Said'. Prove '..Said' where nothing that the law and all that it calls make is longer than what came in: it says more and counts as full. Else prove '..UptoSaid'. A law counts once. -/
mutual
def uptoBulk {H : Type} : DataW H → Nat
  | .lit (.string bytes) => bytes.length + 1
  | .lit _ => 1
  | .nil => 1
  | .ptr d => uptoBulk d + 1
  | .slice elems spare => uptoBulkAll elems + uptoBulkAll spare + 1
  | .agg parts => uptoBulkAll parts + 1
  | .iface _ d => uptoBulk d + 1
  | .map entries => uptoBulkEntries entries + 1
  | .held _ => 1
def uptoBulkAll {H : Type} : List (DataW H) → Nat
  | [] => 0
  | d :: r => uptoBulk d + uptoBulkAll r
def uptoBulkEntries {H : Type} : List (Lit × DataW H) → Nat
  | [] => 0
  | x :: r => uptoBulkEntry x + uptoBulkEntries r
def uptoBulkEntry {H : Type} : Lit × DataW H → Nat
  | (.string bytes, d) => bytes.length + uptoBulk d + 1
  | (_, d) => uptoBulk d + 1
 end
def uptoSmall : (H : Type) → List (DataW H) → Bool := fun _ ds => decide (uptoBulkAll ds ≤ 1048576)
def OpenSpec.upto (s : _root_.Go.ChangeSpec) : _root_.Go.OpenSpec := { _root_.Go.OpenSpec.ofChange s with cond := some uptoSmall }

/-- 'chandlerylaw01.WirePuts', WHERE WHAT IT READS IS OF BULK AT MOST 1048576: true; the input reads as it did. -/
def wirePutsUptoRow : OpenClaim := { program := "ytffcegbcjkhnoaa", sum := "a11969c6dd575ea5b4108bad5960db712bf8023ee55a995b02747be5f42899b4", func := "chandlery/chandlerylaw01.WirePuts", spec := "wirePuts", apart := false, narrowed := true }
def WirePutsUptoSaid : Prop := wirePutsUptoRow.holds Try.pinned (OpenSpec.upto wirePutsSpec)

/-- 'chandlerylaw01.WireTells', WHERE WHAT IT READS IS OF BULK AT MOST 1048576: true; the input reads as it did. -/
def wireTellsUptoRow : OpenClaim := { program := "ytffcegbcjkhnoaa", sum := "a11969c6dd575ea5b4108bad5960db712bf8023ee55a995b02747be5f42899b4", func := "chandlery/chandlerylaw01.WireTells", spec := "wireTells", apart := false, narrowed := true }
def WireTellsUptoSaid : Prop := wireTellsUptoRow.holds Try.pinned (OpenSpec.upto wireTellsSpec)

/-- 'chandlerylaw01.WireTexts', WHERE WHAT IT READS IS OF BULK AT MOST 1048576: true; the input reads as it did. -/
def wireTextsUptoRow : OpenClaim := { program := "ytffcegbcjkhnoaa", sum := "a11969c6dd575ea5b4108bad5960db712bf8023ee55a995b02747be5f42899b4", func := "chandlery/chandlerylaw01.WireTexts", spec := "wireTexts", apart := false, narrowed := true }
def WireTextsUptoSaid : Prop := wireTextsUptoRow.holds Try.pinned (OpenSpec.upto wireTextsSpec)

/-- 'chandlerylaw01.WireAgain', WHERE WHAT IT READS IS OF BULK AT MOST 1048576: true; the input reads as it did. -/
def wireAgainUptoRow : OpenClaim := { program := "ytffcegbcjkhnoaa", sum := "a11969c6dd575ea5b4108bad5960db712bf8023ee55a995b02747be5f42899b4", func := "chandlery/chandlerylaw01.WireAgain", spec := "wireAgain", apart := false, narrowed := true }
def WireAgainUptoSaid : Prop := wireAgainUptoRow.holds Try.pinned (OpenSpec.upto wireAgainSpec)

/-- 'chandlerylaw04.FoldBoth', WHERE WHAT IT READS IS OF BULK AT MOST 1048576: true; the input reads as it did. -/
def foldBothUptoRow : OpenClaim := { program := "ytffcegbcjkhnoaa", sum := "a11969c6dd575ea5b4108bad5960db712bf8023ee55a995b02747be5f42899b4", func := "chandlery/chandlerylaw04.FoldBoth", spec := "foldBoth", unfollowed := true, recurses := true, apart := false, narrowed := true }
def FoldBothUptoSaid : Prop := foldBothUptoRow.holds Try.pinned (OpenSpec.upto foldBothSpec)

/-- 'chandlerylaw01.WireRows', WHERE WHAT IT READS IS OF BULK AT MOST 1048576: true; the input reads as it did. -/
def wireRowsUptoRow : OpenClaim := { program := "ytffcegbcjkhnoaa", sum := "a11969c6dd575ea5b4108bad5960db712bf8023ee55a995b02747be5f42899b4", func := "chandlery/chandlerylaw01.WireRows", spec := "wireRows", apart := false, narrowed := true }
def WireRowsUptoSaid : Prop := wireRowsUptoRow.holds Try.pinned (OpenSpec.upto wireRowsSpec)

/-- 'chandlerylaw04.FoldShort', WHERE WHAT IT READS IS OF BULK AT MOST 1048576: true; the input reads as it did. -/
def foldShortUptoRow : OpenClaim := { program := "ytffcegbcjkhnoaa", sum := "a11969c6dd575ea5b4108bad5960db712bf8023ee55a995b02747be5f42899b4", func := "chandlery/chandlerylaw04.FoldShort", spec := "foldShort", inPlace := ["internal/bytealg.IndexByteString"], unfollowed := true, recurses := true, apart := false, narrowed := true }
def FoldShortUptoSaid : Prop := foldShortUptoRow.holds Try.pinned (OpenSpec.upto foldShortSpec)

/-- 'chandlerylaw01.WireNumbers', WHERE WHAT IT READS IS OF BULK AT MOST 1048576: true; the input reads as it did. -/
def wireNumbersUptoRow : OpenClaim := { program := "ytffcegbcjkhnoaa", sum := "a11969c6dd575ea5b4108bad5960db712bf8023ee55a995b02747be5f42899b4", func := "chandlery/chandlerylaw01.WireNumbers", spec := "wireNumbers", apart := false, narrowed := true }
def WireNumbersUptoSaid : Prop := wireNumbersUptoRow.holds Try.pinned (OpenSpec.upto wireNumbersSpec)

/-- 'chandlerylaw03.Sha256Pads', WHERE WHAT IT READS IS OF BULK AT MOST 1048576: true; the input reads as it did. -/
def sha256PadsUptoRow : OpenClaim := { program := "ytffcegbcjkhnoaa", sum := "a11969c6dd575ea5b4108bad5960db712bf8023ee55a995b02747be5f42899b4", func := "chandlery/chandlerylaw03.Sha256Pads", spec := "sha256Pads", unfollowed := true, recurses := true, apart := false, narrowed := true }
def Sha256PadsUptoSaid : Prop := sha256PadsUptoRow.holds Try.pinned (OpenSpec.upto sha256PadsSpec)

/-- 'chandlerylaw03.Sha256Sums', WHERE WHAT IT READS IS OF BULK AT MOST 1048576: true; the input reads as it did. -/
def sha256SumsUptoRow : OpenClaim := { program := "ytffcegbcjkhnoaa", sum := "a11969c6dd575ea5b4108bad5960db712bf8023ee55a995b02747be5f42899b4", func := "chandlery/chandlerylaw03.Sha256Sums", spec := "sha256Sums", unfollowed := true, recurses := true, apart := false, narrowed := true }
def Sha256SumsUptoSaid : Prop := sha256SumsUptoRow.holds Try.pinned (OpenSpec.upto sha256SumsSpec)

/-- 'chandlerylaw03.Sha256Parts', WHERE WHAT IT READS IS OF BULK AT MOST 1048576: true; the input reads as it did. -/
def sha256PartsUptoRow : OpenClaim := { program := "ytffcegbcjkhnoaa", sum := "a11969c6dd575ea5b4108bad5960db712bf8023ee55a995b02747be5f42899b4", func := "chandlery/chandlerylaw03.Sha256Parts", spec := "sha256Parts", unfollowed := true, recurses := true, apart := false, narrowed := true }
def Sha256PartsUptoSaid : Prop := sha256PartsUptoRow.holds Try.pinned (OpenSpec.upto sha256PartsSpec)

/-- 'chandlerylaw03.Sha256Mixes', WHERE WHAT IT READS IS OF BULK AT MOST 1048576: true; the input reads as it did. -/
def sha256MixesUptoRow : OpenClaim := { program := "ytffcegbcjkhnoaa", sum := "a11969c6dd575ea5b4108bad5960db712bf8023ee55a995b02747be5f42899b4", func := "chandlery/chandlerylaw03.Sha256Mixes", spec := "sha256Mixes", unfollowed := true, recurses := true, apart := false, narrowed := true }
def Sha256MixesUptoSaid : Prop := sha256MixesUptoRow.holds Try.pinned (OpenSpec.upto sha256MixesSpec)

/-- 'chandlerylaw03.Sha256Steps', WHERE WHAT IT READS IS OF BULK AT MOST 1048576: true; the input reads as it did. -/
def sha256StepsUptoRow : OpenClaim := { program := "ytffcegbcjkhnoaa", sum := "a11969c6dd575ea5b4108bad5960db712bf8023ee55a995b02747be5f42899b4", func := "chandlery/chandlerylaw03.Sha256Steps", spec := "sha256Steps", unfollowed := true, recurses := true, apart := false, narrowed := true }
def Sha256StepsUptoSaid : Prop := sha256StepsUptoRow.holds Try.pinned (OpenSpec.upto sha256StepsSpec)

/-- 'chandlerylaw04.FoldFolds', WHERE WHAT IT READS IS OF BULK AT MOST 1048576: true; the input reads as it did. -/
def foldFoldsUptoRow : OpenClaim := { program := "ytffcegbcjkhnoaa", sum := "a11969c6dd575ea5b4108bad5960db712bf8023ee55a995b02747be5f42899b4", func := "chandlery/chandlerylaw04.FoldFolds", spec := "foldFolds", unfollowed := true, recurses := true, apart := false, narrowed := true }
def FoldFoldsUptoSaid : Prop := foldFoldsUptoRow.holds Try.pinned (OpenSpec.upto foldFoldsSpec)

/-- 'chandlerylaw04.FoldCrc', WHERE WHAT IT READS IS OF BULK AT MOST 1048576: true; the input reads as it did. -/
def foldCrcUptoRow : OpenClaim := { program := "ytffcegbcjkhnoaa", sum := "a11969c6dd575ea5b4108bad5960db712bf8023ee55a995b02747be5f42899b4", func := "chandlery/chandlerylaw04.FoldCrc", spec := "foldCrc", unfollowed := true, recurses := true, apart := false, narrowed := true }
def FoldCrcUptoSaid : Prop := foldCrcUptoRow.holds Try.pinned (OpenSpec.upto foldCrcSpec)

/-- 'chandlerylaw04.FoldLinear', WHERE WHAT IT READS IS OF BULK AT MOST 1048576: true; the input reads as it did. -/
def foldLinearUptoRow : OpenClaim := { program := "ytffcegbcjkhnoaa", sum := "a11969c6dd575ea5b4108bad5960db712bf8023ee55a995b02747be5f42899b4", func := "chandlery/chandlerylaw04.FoldLinear", spec := "foldLinear", unfollowed := true, recurses := true, apart := false, narrowed := true }
def FoldLinearUptoSaid : Prop := foldLinearUptoRow.holds Try.pinned (OpenSpec.upto foldLinearSpec)

end Rows
end Go.Proofs.Ytffcegbcjkhnoaa
