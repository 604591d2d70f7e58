/-
  No cell of these rows narrows 'for every input' (looked for: loops, veiled, ifaces, maps, wideKeys, modest, calm, conditions, laid).
  DERIVED. THE GIVEN ROWS OF THIS SEAT. 15 by the template 'for every input the law returns true; each argument reads behind the call as it read before'; 0 by the template 'total and deterministic' (their statements: YtlfhjmnaommckaaTotals.lean).
  GIVEN WITH THE SEED: the statements are not yours to turn. If you find one false, say at which input.
  Laid BY PROGRAM, IN A SANDBOX (cutbox-rows.mjs): the forced cells as the released guide's own fill.sh prints them over the translation fdccc809f6fe3820… (all of the seat's roots in one cut). By AI agents, Wed Nov 11 2026. No macro, syntax, notation, axiom, sorry.
-/
import Derived.Test.YtlfhjmnaommckaaChecked
import GoSem.Claim
import GoSem.ClaimJoined
import GoSem.ClaimMapViews
import Derived.JoinedTies
import Derived.KernelRfl
namespace Go.Proofs.Ytlfhjmnaommckaa
/- THE CELL 'sum', in the pinned program and in every row, IS THE sha256 OF THE DUMP (.gsa) THAT YtlfhjmnaommckaaProg.lean LOADS. Nothing in Lean hashes anything: it is a label: what it is worth is what the hold of that sum in a sandbox is worth. -/
noncomputable def Try.pinned : Pinned := { name := "ytlfhjmnaommckaa", sum := "fdccc809f6fe38206125b37358fe9c7db865242864e6641f59f7997c15f58ccd", checked := Try.checked }
namespace Rows
def none {H : Type} : Left H := { results := [], args := [] }

/-- 'laws.FnScrews': WHATEVER THE INPUT: true; the input reads as it did. -/
def fnScrewsSpec : ChangeSpec := { name := "fnScrews", fn := fun _ => fun
  | [d1, d2] => { results := [.lit (.bool true)], args := [d1, d2] }
  | _ => none }
def fnScrewsRow : OpenClaim := { program := "ytlfhjmnaommckaa", sum := "fdccc809f6fe38206125b37358fe9c7db865242864e6641f59f7997c15f58ccd", func := "loop.example/g01254/laws.FnScrews", spec := "fnScrews", unfollowed := true, recurses := true, apart := false }
def FnScrewsSaid : Prop := fnScrewsRow.holds Try.pinned (OpenSpec.ofChange fnScrewsSpec)

/-- ITS FALSE NEIGHBOUR: 'it returns false'. Refute it at one input. -/
def fnScrewsWrong : ChangeSpec := { name := "fnScrews", fn := fun _ => fun
  | [d1, d2] => { results := [.lit (.bool false)], args := [d1, d2] }
  | _ => none }
def FnScrewsWrongFalsely : Prop := fnScrewsRow.holds Try.pinned (OpenSpec.ofChange fnScrewsWrong)

/-- 'laws.FnExactClosingOf': WHATEVER THE INPUT: true; the input reads as it did. -/
def fnExactClosingOfSpec : ChangeSpec := { name := "fnExactClosingOf", fn := fun _ => fun
  | [d] => { results := [.lit (.bool true)], args := [d] }
  | _ => none }
def fnExactClosingOfRow : OpenClaim := { program := "ytlfhjmnaommckaa", sum := "fdccc809f6fe38206125b37358fe9c7db865242864e6641f59f7997c15f58ccd", func := "loop.example/g01254/laws.FnExactClosingOf", spec := "fnExactClosingOf", unfollowed := true, recurses := true, apart := false }
def FnExactClosingOfSaid : Prop := fnExactClosingOfRow.holds Try.pinned (OpenSpec.ofChange fnExactClosingOfSpec)

/-- ITS FALSE NEIGHBOUR: 'it returns false'. Refute it at one input. -/
def fnExactClosingOfWrong : ChangeSpec := { name := "fnExactClosingOf", fn := fun _ => fun
  | [d] => { results := [.lit (.bool false)], args := [d] }
  | _ => none }
def FnExactClosingOfWrongFalsely : Prop := fnExactClosingOfRow.holds Try.pinned (OpenSpec.ofChange fnExactClosingOfWrong)

/-- 'laws.FnExactSameDisk': WHATEVER THE INPUT: true; the input reads as it did. -/
def fnExactSameDiskSpec : ChangeSpec := { name := "fnExactSameDisk", fn := fun _ => fun
  | [d1, d2] => { results := [.lit (.bool true)], args := [d1, d2] }
  | _ => none }
def fnExactSameDiskRow : OpenClaim := { program := "ytlfhjmnaommckaa", sum := "fdccc809f6fe38206125b37358fe9c7db865242864e6641f59f7997c15f58ccd", func := "loop.example/g01254/laws.FnExactSameDisk", spec := "fnExactSameDisk", apart := false }
def FnExactSameDiskSaid : Prop := fnExactSameDiskRow.holds Try.pinned (OpenSpec.ofChange fnExactSameDiskSpec)

/-- ITS FALSE NEIGHBOUR: 'it returns false'. Refute it at one input. -/
def fnExactSameDiskWrong : ChangeSpec := { name := "fnExactSameDisk", fn := fun _ => fun
  | [d1, d2] => { results := [.lit (.bool false)], args := [d1, d2] }
  | _ => none }
def FnExactSameDiskWrongFalsely : Prop := fnExactSameDiskRow.holds Try.pinned (OpenSpec.ofChange fnExactSameDiskWrong)

/-- 'laws.FnExactValidDisk': WHATEVER THE INPUT: true; the input reads as it did. -/
def fnExactValidDiskSpec : ChangeSpec := { name := "fnExactValidDisk", fn := fun _ => fun
  | [d] => { results := [.lit (.bool true)], args := [d] }
  | _ => none }
def fnExactValidDiskRow : OpenClaim := { program := "ytlfhjmnaommckaa", sum := "fdccc809f6fe38206125b37358fe9c7db865242864e6641f59f7997c15f58ccd", func := "loop.example/g01254/laws.FnExactValidDisk", spec := "fnExactValidDisk", unfollowed := true, recurses := true, apart := false }
def FnExactValidDiskSaid : Prop := fnExactValidDiskRow.holds Try.pinned (OpenSpec.ofChange fnExactValidDiskSpec)

/-- ITS FALSE NEIGHBOUR: 'it returns false'. Refute it at one input. -/
def fnExactValidDiskWrong : ChangeSpec := { name := "fnExactValidDisk", fn := fun _ => fun
  | [d] => { results := [.lit (.bool false)], args := [d] }
  | _ => none }
def FnExactValidDiskWrongFalsely : Prop := fnExactValidDiskRow.holds Try.pinned (OpenSpec.ofChange fnExactValidDiskWrong)

/-- 'laws.FnEveryClosing': WHATEVER THE INPUT: true; the input reads as it did. -/
def fnEveryClosingSpec : ChangeSpec := { name := "fnEveryClosing", fn := fun _ => fun
  | [d] => { results := [.lit (.bool true)], args := [d] }
  | _ => none }
def fnEveryClosingRow : OpenClaim := { program := "ytlfhjmnaommckaa", sum := "fdccc809f6fe38206125b37358fe9c7db865242864e6641f59f7997c15f58ccd", func := "loop.example/g01254/laws.FnEveryClosing", spec := "fnEveryClosing", unfollowed := true, recurses := true, apart := false }
def FnEveryClosingSaid : Prop := fnEveryClosingRow.holds Try.pinned (OpenSpec.ofChange fnEveryClosingSpec)

/-- ITS FALSE NEIGHBOUR: 'it returns false'. Refute it at one input. -/
def fnEveryClosingWrong : ChangeSpec := { name := "fnEveryClosing", fn := fun _ => fun
  | [d] => { results := [.lit (.bool false)], args := [d] }
  | _ => none }
def FnEveryClosingWrongFalsely : Prop := fnEveryClosingRow.holds Try.pinned (OpenSpec.ofChange fnEveryClosingWrong)

/-- 'laws.FnExactSameScale': WHATEVER THE INPUT: true; the input reads as it did. -/
def fnExactSameScaleSpec : ChangeSpec := { name := "fnExactSameScale", fn := fun _ => fun
  | [d1, d2] => { results := [.lit (.bool true)], args := [d1, d2] }
  | _ => none }
def fnExactSameScaleRow : OpenClaim := { program := "ytlfhjmnaommckaa", sum := "fdccc809f6fe38206125b37358fe9c7db865242864e6641f59f7997c15f58ccd", func := "loop.example/g01254/laws.FnExactSameScale", spec := "fnExactSameScale", apart := false }
def FnExactSameScaleSaid : Prop := fnExactSameScaleRow.holds Try.pinned (OpenSpec.ofChange fnExactSameScaleSpec)

/-- ITS FALSE NEIGHBOUR: 'it returns false'. Refute it at one input. -/
def fnExactSameScaleWrong : ChangeSpec := { name := "fnExactSameScale", fn := fun _ => fun
  | [d1, d2] => { results := [.lit (.bool false)], args := [d1, d2] }
  | _ => none }
def FnExactSameScaleWrongFalsely : Prop := fnExactSameScaleRow.holds Try.pinned (OpenSpec.ofChange fnExactSameScaleWrong)

/-- 'laws.FnExactHullOf': WHATEVER THE INPUT: true; the input reads as it did. -/
def fnExactHullOfSpec : ChangeSpec := { name := "fnExactHullOf", fn := fun _ => fun
  | [d] => { results := [.lit (.bool true)], args := [d] }
  | _ => none }
def fnExactHullOfRow : OpenClaim := { program := "ytlfhjmnaommckaa", sum := "fdccc809f6fe38206125b37358fe9c7db865242864e6641f59f7997c15f58ccd", func := "loop.example/g01254/laws.FnExactHullOf", spec := "fnExactHullOf", unfollowed := true, recurses := true, apart := false }
def FnExactHullOfSaid : Prop := fnExactHullOfRow.holds Try.pinned (OpenSpec.ofChange fnExactHullOfSpec)

/-- ITS FALSE NEIGHBOUR: 'it returns false'. Refute it at one input. -/
def fnExactHullOfWrong : ChangeSpec := { name := "fnExactHullOf", fn := fun _ => fun
  | [d] => { results := [.lit (.bool false)], args := [d] }
  | _ => none }
def FnExactHullOfWrongFalsely : Prop := fnExactHullOfRow.holds Try.pinned (OpenSpec.ofChange fnExactHullOfWrong)

/-- 'laws.FnExactWarmScale': WHATEVER THE INPUT: true; the input reads as it did. -/
def fnExactWarmScaleSpec : ChangeSpec := { name := "fnExactWarmScale", fn := fun _ => fun
  | [d1, d2] => { results := [.lit (.bool true)], args := [d1, d2] }
  | _ => none }
def fnExactWarmScaleRow : OpenClaim := { program := "ytlfhjmnaommckaa", sum := "fdccc809f6fe38206125b37358fe9c7db865242864e6641f59f7997c15f58ccd", func := "loop.example/g01254/laws.FnExactWarmScale", spec := "fnExactWarmScale", unfollowed := true, recurses := true, apart := false }
def FnExactWarmScaleSaid : Prop := fnExactWarmScaleRow.holds Try.pinned (OpenSpec.ofChange fnExactWarmScaleSpec)

/-- ITS FALSE NEIGHBOUR: 'it returns false'. Refute it at one input. -/
def fnExactWarmScaleWrong : ChangeSpec := { name := "fnExactWarmScale", fn := fun _ => fun
  | [d1, d2] => { results := [.lit (.bool false)], args := [d1, d2] }
  | _ => none }
def FnExactWarmScaleWrongFalsely : Prop := fnExactWarmScaleRow.holds Try.pinned (OpenSpec.ofChange fnExactWarmScaleWrong)

/-- 'laws.FnExactCorrectScale': WHATEVER THE INPUT: true; the input reads as it did. -/
def fnExactCorrectScaleSpec : ChangeSpec := { name := "fnExactCorrectScale", fn := fun _ => fun
  | [d1, d2] => { results := [.lit (.bool true)], args := [d1, d2] }
  | _ => none }
def fnExactCorrectScaleRow : OpenClaim := { program := "ytlfhjmnaommckaa", sum := "fdccc809f6fe38206125b37358fe9c7db865242864e6641f59f7997c15f58ccd", func := "loop.example/g01254/laws.FnExactCorrectScale", spec := "fnExactCorrectScale", unfollowed := true, recurses := true, apart := false }
def FnExactCorrectScaleSaid : Prop := fnExactCorrectScaleRow.holds Try.pinned (OpenSpec.ofChange fnExactCorrectScaleSpec)

/-- ITS FALSE NEIGHBOUR: 'it returns false'. Refute it at one input. -/
def fnExactCorrectScaleWrong : ChangeSpec := { name := "fnExactCorrectScale", fn := fun _ => fun
  | [d1, d2] => { results := [.lit (.bool false)], args := [d1, d2] }
  | _ => none }
def FnExactCorrectScaleWrongFalsely : Prop := fnExactCorrectScaleRow.holds Try.pinned (OpenSpec.ofChange fnExactCorrectScaleWrong)

/-- 'laws.FnExactEvenScale': WHATEVER THE INPUT: true; the input reads as it did. -/
def fnExactEvenScaleSpec : ChangeSpec := { name := "fnExactEvenScale", fn := fun _ => fun
  | [d1, d2] => { results := [.lit (.bool true)], args := [d1, d2] }
  | _ => none }
def fnExactEvenScaleRow : OpenClaim := { program := "ytlfhjmnaommckaa", sum := "fdccc809f6fe38206125b37358fe9c7db865242864e6641f59f7997c15f58ccd", func := "loop.example/g01254/laws.FnExactEvenScale", spec := "fnExactEvenScale", unfollowed := true, recurses := true, apart := false }
def FnExactEvenScaleSaid : Prop := fnExactEvenScaleRow.holds Try.pinned (OpenSpec.ofChange fnExactEvenScaleSpec)

/-- ITS FALSE NEIGHBOUR: 'it returns false'. Refute it at one input. -/
def fnExactEvenScaleWrong : ChangeSpec := { name := "fnExactEvenScale", fn := fun _ => fun
  | [d1, d2] => { results := [.lit (.bool false)], args := [d1, d2] }
  | _ => none }
def FnExactEvenScaleWrongFalsely : Prop := fnExactEvenScaleRow.holds Try.pinned (OpenSpec.ofChange fnExactEvenScaleWrong)

/-- 'laws.FnExactPlayFound': WHATEVER THE INPUT: true; the input reads as it did. -/
def fnExactPlayFoundSpec : ChangeSpec := { name := "fnExactPlayFound", fn := fun _ => fun
  | [d1, d2, d3] => { results := [.lit (.bool true)], args := [d1, d2, d3] }
  | _ => none }
def fnExactPlayFoundRow : OpenClaim := { program := "ytlfhjmnaommckaa", sum := "fdccc809f6fe38206125b37358fe9c7db865242864e6641f59f7997c15f58ccd", func := "loop.example/g01254/laws.FnExactPlayFound", spec := "fnExactPlayFound", unfollowed := true, recurses := true, apart := false }
def FnExactPlayFoundSaid : Prop := fnExactPlayFoundRow.holds Try.pinned (OpenSpec.ofChange fnExactPlayFoundSpec)

/-- ITS FALSE NEIGHBOUR: 'it returns false'. Refute it at one input. -/
def fnExactPlayFoundWrong : ChangeSpec := { name := "fnExactPlayFound", fn := fun _ => fun
  | [d1, d2, d3] => { results := [.lit (.bool false)], args := [d1, d2, d3] }
  | _ => none }
def FnExactPlayFoundWrongFalsely : Prop := fnExactPlayFoundRow.holds Try.pinned (OpenSpec.ofChange fnExactPlayFoundWrong)

/-- 'laws.FnExactTurnTo': WHATEVER THE INPUT: true; the input reads as it did. -/
def fnExactTurnToSpec : ChangeSpec := { name := "fnExactTurnTo", fn := fun _ => fun
  | [d1, d2, d3, d4] => { results := [.lit (.bool true)], args := [d1, d2, d3, d4] }
  | _ => none }
def fnExactTurnToRow : OpenClaim := { program := "ytlfhjmnaommckaa", sum := "fdccc809f6fe38206125b37358fe9c7db865242864e6641f59f7997c15f58ccd", func := "loop.example/g01254/laws.FnExactTurnTo", spec := "fnExactTurnTo", unfollowed := true, recurses := true, apart := false }
def FnExactTurnToSaid : Prop := fnExactTurnToRow.holds Try.pinned (OpenSpec.ofChange fnExactTurnToSpec)

/-- ITS FALSE NEIGHBOUR: 'it returns false'. Refute it at one input. -/
def fnExactTurnToWrong : ChangeSpec := { name := "fnExactTurnTo", fn := fun _ => fun
  | [d1, d2, d3, d4] => { results := [.lit (.bool false)], args := [d1, d2, d3, d4] }
  | _ => none }
def FnExactTurnToWrongFalsely : Prop := fnExactTurnToRow.holds Try.pinned (OpenSpec.ofChange fnExactTurnToWrong)

/-- 'laws.FnExactLineThatFits': WHATEVER THE INPUT: true; the input reads as it did. -/
def fnExactLineThatFitsSpec : ChangeSpec := { name := "fnExactLineThatFits", fn := fun _ => fun
  | [d1, d2, d3] => { results := [.lit (.bool true)], args := [d1, d2, d3] }
  | _ => none }
def fnExactLineThatFitsRow : OpenClaim := { program := "ytlfhjmnaommckaa", sum := "fdccc809f6fe38206125b37358fe9c7db865242864e6641f59f7997c15f58ccd", func := "loop.example/g01254/laws.FnExactLineThatFits", spec := "fnExactLineThatFits", unfollowed := true, recurses := true, apart := false }
def FnExactLineThatFitsSaid : Prop := fnExactLineThatFitsRow.holds Try.pinned (OpenSpec.ofChange fnExactLineThatFitsSpec)

/-- ITS FALSE NEIGHBOUR: 'it returns false'. Refute it at one input. -/
def fnExactLineThatFitsWrong : ChangeSpec := { name := "fnExactLineThatFits", fn := fun _ => fun
  | [d1, d2, d3] => { results := [.lit (.bool false)], args := [d1, d2, d3] }
  | _ => none }
def FnExactLineThatFitsWrongFalsely : Prop := fnExactLineThatFitsRow.holds Try.pinned (OpenSpec.ofChange fnExactLineThatFitsWrong)

/-- 'laws.FnExactMulSpans': WHATEVER THE INPUT: true; the input reads as it did. -/
def fnExactMulSpansSpec : ChangeSpec := { name := "fnExactMulSpans", fn := fun _ => fun
  | [d1, d2] => { results := [.lit (.bool true)], args := [d1, d2] }
  | _ => none }
def fnExactMulSpansRow : OpenClaim := { program := "ytlfhjmnaommckaa", sum := "fdccc809f6fe38206125b37358fe9c7db865242864e6641f59f7997c15f58ccd", func := "loop.example/g01254/laws.FnExactMulSpans", spec := "fnExactMulSpans", unfollowed := true, recurses := true, apart := false }
def FnExactMulSpansSaid : Prop := fnExactMulSpansRow.holds Try.pinned (OpenSpec.ofChange fnExactMulSpansSpec)

/-- ITS FALSE NEIGHBOUR: 'it returns false'. Refute it at one input. -/
def fnExactMulSpansWrong : ChangeSpec := { name := "fnExactMulSpans", fn := fun _ => fun
  | [d1, d2] => { results := [.lit (.bool false)], args := [d1, d2] }
  | _ => none }
def FnExactMulSpansWrongFalsely : Prop := fnExactMulSpansRow.holds Try.pinned (OpenSpec.ofChange fnExactMulSpansWrong)

/-- 'laws.FnExactMiddleOf': WHATEVER THE INPUT: true; the input reads as it did. -/
def fnExactMiddleOfSpec : ChangeSpec := { name := "fnExactMiddleOf", fn := fun _ => fun
  | [d] => { results := [.lit (.bool true)], args := [d] }
  | _ => none }
def fnExactMiddleOfRow : OpenClaim := { program := "ytlfhjmnaommckaa", sum := "fdccc809f6fe38206125b37358fe9c7db865242864e6641f59f7997c15f58ccd", func := "loop.example/g01254/laws.FnExactMiddleOf", spec := "fnExactMiddleOf", unfollowed := true, recurses := true, apart := false }
def FnExactMiddleOfSaid : Prop := fnExactMiddleOfRow.holds Try.pinned (OpenSpec.ofChange fnExactMiddleOfSpec)

/-- ITS FALSE NEIGHBOUR: 'it returns false'. Refute it at one input. -/
def fnExactMiddleOfWrong : ChangeSpec := { name := "fnExactMiddleOf", fn := fun _ => fun
  | [d] => { results := [.lit (.bool false)], args := [d] }
  | _ => none }
def FnExactMiddleOfWrongFalsely : Prop := fnExactMiddleOfRow.holds Try.pinned (OpenSpec.ofChange fnExactMiddleOfWrong)

/- THE SECOND FORM. 'bulk': how many values and letters a reading holds, each counted each time it is reached (what is shared counts as often as it is met; a slice's spare places count too). A statement '..UptoSaid' is the law's where the arguments, and the package variables that the reading takes, are together of bulk at most 1048576: NARROWER than '..Said'. Prove '..Said' where nothing that the law and all that it calls make is longer than what came in: it says more and counts as full. Else prove '..UptoSaid'. A law counts once. -/
mutual
def uptoBulk {H : Type} : DataW H → Nat
  | .lit (.string bytes) => bytes.length + 1
  | .lit _ => 1
  | .nil => 1
  | .ptr d => uptoBulk d + 1
  | .slice elems spare => uptoBulkAll elems + uptoBulkAll spare + 1
  | .agg parts => uptoBulkAll parts + 1
  | .iface _ d => uptoBulk d + 1
  | .map entries => uptoBulkEntries entries + 1
  | .held _ => 1
def uptoBulkAll {H : Type} : List (DataW H) → Nat
  | [] => 0
  | d :: r => uptoBulk d + uptoBulkAll r
def uptoBulkEntries {H : Type} : List (Lit × DataW H) → Nat
  | [] => 0
  | x :: r => uptoBulkEntry x + uptoBulkEntries r
def uptoBulkEntry {H : Type} : Lit × DataW H → Nat
  | (.string bytes, d) => bytes.length + uptoBulk d + 1
  | (_, d) => uptoBulk d + 1
 end
def uptoSmall : (H : Type) → List (DataW H) → Bool := fun _ ds => decide (uptoBulkAll ds ≤ 1048576)
def OpenSpec.upto (s : _root_.Go.ChangeSpec) : _root_.Go.OpenSpec := { _root_.Go.OpenSpec.ofChange s with cond := some uptoSmall }

/-- 'laws.FnScrews', WHERE WHAT IT READS IS OF BULK AT MOST 1048576: true; the input reads as it did. -/
def fnScrewsUptoRow : OpenClaim := { program := "ytlfhjmnaommckaa", sum := "fdccc809f6fe38206125b37358fe9c7db865242864e6641f59f7997c15f58ccd", func := "loop.example/g01254/laws.FnScrews", spec := "fnScrews", unfollowed := true, recurses := true, apart := false, narrowed := true }
def FnScrewsUptoSaid : Prop := fnScrewsUptoRow.holds Try.pinned (OpenSpec.upto fnScrewsSpec)

/-- 'laws.FnExactClosingOf', WHERE WHAT IT READS IS OF BULK AT MOST 1048576: true; the input reads as it did. -/
def fnExactClosingOfUptoRow : OpenClaim := { program := "ytlfhjmnaommckaa", sum := "fdccc809f6fe38206125b37358fe9c7db865242864e6641f59f7997c15f58ccd", func := "loop.example/g01254/laws.FnExactClosingOf", spec := "fnExactClosingOf", unfollowed := true, recurses := true, apart := false, narrowed := true }
def FnExactClosingOfUptoSaid : Prop := fnExactClosingOfUptoRow.holds Try.pinned (OpenSpec.upto fnExactClosingOfSpec)

/-- 'laws.FnExactSameDisk', WHERE WHAT IT READS IS OF BULK AT MOST 1048576: true; the input reads as it did. -/
def fnExactSameDiskUptoRow : OpenClaim := { program := "ytlfhjmnaommckaa", sum := "fdccc809f6fe38206125b37358fe9c7db865242864e6641f59f7997c15f58ccd", func := "loop.example/g01254/laws.FnExactSameDisk", spec := "fnExactSameDisk", apart := false, narrowed := true }
def FnExactSameDiskUptoSaid : Prop := fnExactSameDiskUptoRow.holds Try.pinned (OpenSpec.upto fnExactSameDiskSpec)

/-- 'laws.FnExactValidDisk', WHERE WHAT IT READS IS OF BULK AT MOST 1048576: true; the input reads as it did. -/
def fnExactValidDiskUptoRow : OpenClaim := { program := "ytlfhjmnaommckaa", sum := "fdccc809f6fe38206125b37358fe9c7db865242864e6641f59f7997c15f58ccd", func := "loop.example/g01254/laws.FnExactValidDisk", spec := "fnExactValidDisk", unfollowed := true, recurses := true, apart := false, narrowed := true }
def FnExactValidDiskUptoSaid : Prop := fnExactValidDiskUptoRow.holds Try.pinned (OpenSpec.upto fnExactValidDiskSpec)

/-- 'laws.FnEveryClosing', WHERE WHAT IT READS IS OF BULK AT MOST 1048576: true; the input reads as it did. -/
def fnEveryClosingUptoRow : OpenClaim := { program := "ytlfhjmnaommckaa", sum := "fdccc809f6fe38206125b37358fe9c7db865242864e6641f59f7997c15f58ccd", func := "loop.example/g01254/laws.FnEveryClosing", spec := "fnEveryClosing", unfollowed := true, recurses := true, apart := false, narrowed := true }
def FnEveryClosingUptoSaid : Prop := fnEveryClosingUptoRow.holds Try.pinned (OpenSpec.upto fnEveryClosingSpec)

/-- 'laws.FnExactSameScale', WHERE WHAT IT READS IS OF BULK AT MOST 1048576: true; the input reads as it did. -/
def fnExactSameScaleUptoRow : OpenClaim := { program := "ytlfhjmnaommckaa", sum := "fdccc809f6fe38206125b37358fe9c7db865242864e6641f59f7997c15f58ccd", func := "loop.example/g01254/laws.FnExactSameScale", spec := "fnExactSameScale", apart := false, narrowed := true }
def FnExactSameScaleUptoSaid : Prop := fnExactSameScaleUptoRow.holds Try.pinned (OpenSpec.upto fnExactSameScaleSpec)

/-- 'laws.FnExactHullOf', WHERE WHAT IT READS IS OF BULK AT MOST 1048576: true; the input reads as it did. -/
def fnExactHullOfUptoRow : OpenClaim := { program := "ytlfhjmnaommckaa", sum := "fdccc809f6fe38206125b37358fe9c7db865242864e6641f59f7997c15f58ccd", func := "loop.example/g01254/laws.FnExactHullOf", spec := "fnExactHullOf", unfollowed := true, recurses := true, apart := false, narrowed := true }
def FnExactHullOfUptoSaid : Prop := fnExactHullOfUptoRow.holds Try.pinned (OpenSpec.upto fnExactHullOfSpec)

/-- 'laws.FnExactWarmScale', WHERE WHAT IT READS IS OF BULK AT MOST 1048576: true; the input reads as it did. -/
def fnExactWarmScaleUptoRow : OpenClaim := { program := "ytlfhjmnaommckaa", sum := "fdccc809f6fe38206125b37358fe9c7db865242864e6641f59f7997c15f58ccd", func := "loop.example/g01254/laws.FnExactWarmScale", spec := "fnExactWarmScale", unfollowed := true, recurses := true, apart := false, narrowed := true }
def FnExactWarmScaleUptoSaid : Prop := fnExactWarmScaleUptoRow.holds Try.pinned (OpenSpec.upto fnExactWarmScaleSpec)

/-- 'laws.FnExactCorrectScale', WHERE WHAT IT READS IS OF BULK AT MOST 1048576: true; the input reads as it did. -/
def fnExactCorrectScaleUptoRow : OpenClaim := { program := "ytlfhjmnaommckaa", sum := "fdccc809f6fe38206125b37358fe9c7db865242864e6641f59f7997c15f58ccd", func := "loop.example/g01254/laws.FnExactCorrectScale", spec := "fnExactCorrectScale", unfollowed := true, recurses := true, apart := false, narrowed := true }
def FnExactCorrectScaleUptoSaid : Prop := fnExactCorrectScaleUptoRow.holds Try.pinned (OpenSpec.upto fnExactCorrectScaleSpec)

/-- 'laws.FnExactEvenScale', WHERE WHAT IT READS IS OF BULK AT MOST 1048576: true; the input reads as it did. -/
def fnExactEvenScaleUptoRow : OpenClaim := { program := "ytlfhjmnaommckaa", sum := "fdccc809f6fe38206125b37358fe9c7db865242864e6641f59f7997c15f58ccd", func := "loop.example/g01254/laws.FnExactEvenScale", spec := "fnExactEvenScale", unfollowed := true, recurses := true, apart := false, narrowed := true }
def FnExactEvenScaleUptoSaid : Prop := fnExactEvenScaleUptoRow.holds Try.pinned (OpenSpec.upto fnExactEvenScaleSpec)

/-- 'laws.FnExactPlayFound', WHERE WHAT IT READS IS OF BULK AT MOST 1048576: true; the input reads as it did. -/
def fnExactPlayFoundUptoRow : OpenClaim := { program := "ytlfhjmnaommckaa", sum := "fdccc809f6fe38206125b37358fe9c7db865242864e6641f59f7997c15f58ccd", func := "loop.example/g01254/laws.FnExactPlayFound", spec := "fnExactPlayFound", unfollowed := true, recurses := true, apart := false, narrowed := true }
def FnExactPlayFoundUptoSaid : Prop := fnExactPlayFoundUptoRow.holds Try.pinned (OpenSpec.upto fnExactPlayFoundSpec)

/-- 'laws.FnExactTurnTo', WHERE WHAT IT READS IS OF BULK AT MOST 1048576: true; the input reads as it did. -/
def fnExactTurnToUptoRow : OpenClaim := { program := "ytlfhjmnaommckaa", sum := "fdccc809f6fe38206125b37358fe9c7db865242864e6641f59f7997c15f58ccd", func := "loop.example/g01254/laws.FnExactTurnTo", spec := "fnExactTurnTo", unfollowed := true, recurses := true, apart := false, narrowed := true }
def FnExactTurnToUptoSaid : Prop := fnExactTurnToUptoRow.holds Try.pinned (OpenSpec.upto fnExactTurnToSpec)

/-- 'laws.FnExactLineThatFits', WHERE WHAT IT READS IS OF BULK AT MOST 1048576: true; the input reads as it did. -/
def fnExactLineThatFitsUptoRow : OpenClaim := { program := "ytlfhjmnaommckaa", sum := "fdccc809f6fe38206125b37358fe9c7db865242864e6641f59f7997c15f58ccd", func := "loop.example/g01254/laws.FnExactLineThatFits", spec := "fnExactLineThatFits", unfollowed := true, recurses := true, apart := false, narrowed := true }
def FnExactLineThatFitsUptoSaid : Prop := fnExactLineThatFitsUptoRow.holds Try.pinned (OpenSpec.upto fnExactLineThatFitsSpec)

/-- 'laws.FnExactMulSpans', WHERE WHAT IT READS IS OF BULK AT MOST 1048576: true; the input reads as it did. -/
def fnExactMulSpansUptoRow : OpenClaim := { program := "ytlfhjmnaommckaa", sum := "fdccc809f6fe38206125b37358fe9c7db865242864e6641f59f7997c15f58ccd", func := "loop.example/g01254/laws.FnExactMulSpans", spec := "fnExactMulSpans", unfollowed := true, recurses := true, apart := false, narrowed := true }
def FnExactMulSpansUptoSaid : Prop := fnExactMulSpansUptoRow.holds Try.pinned (OpenSpec.upto fnExactMulSpansSpec)

/-- 'laws.FnExactMiddleOf', WHERE WHAT IT READS IS OF BULK AT MOST 1048576: true; the input reads as it did. -/
def fnExactMiddleOfUptoRow : OpenClaim := { program := "ytlfhjmnaommckaa", sum := "fdccc809f6fe38206125b37358fe9c7db865242864e6641f59f7997c15f58ccd", func := "loop.example/g01254/laws.FnExactMiddleOf", spec := "fnExactMiddleOf", unfollowed := true, recurses := true, apart := false, narrowed := true }
def FnExactMiddleOfUptoSaid : Prop := fnExactMiddleOfUptoRow.holds Try.pinned (OpenSpec.upto fnExactMiddleOfSpec)

end Rows
end Go.Proofs.Ytlfhjmnaommckaa
