/-
  No cell of these rows narrows 'for every input' (looked for: loops, veiled, ifaces, maps, wideKeys, modest, calm, conditions, laid).
  DERIVED. THE GIVEN ROWS OF THIS SEAT. 16 by the template 'for every input the law returns true; each argument reads behind the call as it read before'; 0 by the template 'total and deterministic' (their statements: YtbgjokadfkblmaaTotals.lean).
  GIVEN WITH THE SEED: the statements are not yours to turn. If you find one false, say at which input.
  Laid BY PROGRAM, IN A SANDBOX (cutbox-rows.mjs): the forced cells as the released guide's own fill.sh prints them over the translation 9fe35246c4c6e10b… (all of the seat's roots in one cut). By AI agents, Wed Nov 11 2026. No macro, syntax, notation, axiom, sorry.
-/
import Derived.Test.YtbgjokadfkblmaaChecked
import GoSem.Claim
import GoSem.ClaimJoined
import GoSem.ClaimMapViews
import Derived.JoinedTies
import Derived.KernelRfl
namespace Go.Proofs.Ytbgjokadfkblmaa
/- THE CELL 'sum', in the pinned program and in every row, IS THE sha256 OF THE DUMP (.gsa) THAT YtbgjokadfkblmaaProg.lean LOADS. Nothing in Lean hashes anything: it is a label: what it is worth is what the hold of that sum in a sandbox is worth. -/
noncomputable def Try.pinned : Pinned := { name := "ytbgjokadfkblmaa", sum := "9fe35246c4c6e10b9e77e311b56d6391b43ac483cb726eb2df6723525238b997", checked := Try.checked }
namespace Rows
def none {H : Type} : Left H := { results := [], args := [] }

/-- 'laws.FnScrews': WHATEVER THE INPUT: true; the input reads as it did. -/
def fnScrewsSpec : ChangeSpec := { name := "fnScrews", fn := fun _ => fun
  | [d1, d2] => { results := [.lit (.bool true)], args := [d1, d2] }
  | _ => none }
def fnScrewsRow : OpenClaim := { program := "ytbgjokadfkblmaa", sum := "9fe35246c4c6e10b9e77e311b56d6391b43ac483cb726eb2df6723525238b997", func := "loop.example/g01254/laws.FnScrews", spec := "fnScrews", unfollowed := true, recurses := true, apart := false }
def FnScrewsSaid : Prop := fnScrewsRow.holds Try.pinned (OpenSpec.ofChange fnScrewsSpec)

/-- ITS FALSE NEIGHBOUR: 'it returns false'. Refute it at one input. -/
def fnScrewsWrong : ChangeSpec := { name := "fnScrews", fn := fun _ => fun
  | [d1, d2] => { results := [.lit (.bool false)], args := [d1, d2] }
  | _ => none }
def FnScrewsWrongFalsely : Prop := fnScrewsRow.holds Try.pinned (OpenSpec.ofChange fnScrewsWrong)

/-- 'laws.FnExactClosingOf': WHATEVER THE INPUT: true; the input reads as it did. -/
def fnExactClosingOfSpec : ChangeSpec := { name := "fnExactClosingOf", fn := fun _ => fun
  | [d] => { results := [.lit (.bool true)], args := [d] }
  | _ => none }
def fnExactClosingOfRow : OpenClaim := { program := "ytbgjokadfkblmaa", sum := "9fe35246c4c6e10b9e77e311b56d6391b43ac483cb726eb2df6723525238b997", func := "loop.example/g01254/laws.FnExactClosingOf", spec := "fnExactClosingOf", unfollowed := true, recurses := true, apart := false }
def FnExactClosingOfSaid : Prop := fnExactClosingOfRow.holds Try.pinned (OpenSpec.ofChange fnExactClosingOfSpec)

/-- ITS FALSE NEIGHBOUR: 'it returns false'. Refute it at one input. -/
def fnExactClosingOfWrong : ChangeSpec := { name := "fnExactClosingOf", fn := fun _ => fun
  | [d] => { results := [.lit (.bool false)], args := [d] }
  | _ => none }
def FnExactClosingOfWrongFalsely : Prop := fnExactClosingOfRow.holds Try.pinned (OpenSpec.ofChange fnExactClosingOfWrong)

/-- 'laws.FnExactSameDisk': WHATEVER THE INPUT: true; the input reads as it did. -/
def fnExactSameDiskSpec : ChangeSpec := { name := "fnExactSameDisk", fn := fun _ => fun
  | [d1, d2] => { results := [.lit (.bool true)], args := [d1, d2] }
  | _ => none }
def fnExactSameDiskRow : OpenClaim := { program := "ytbgjokadfkblmaa", sum := "9fe35246c4c6e10b9e77e311b56d6391b43ac483cb726eb2df6723525238b997", func := "loop.example/g01254/laws.FnExactSameDisk", spec := "fnExactSameDisk", apart := false }
def FnExactSameDiskSaid : Prop := fnExactSameDiskRow.holds Try.pinned (OpenSpec.ofChange fnExactSameDiskSpec)

/-- ITS FALSE NEIGHBOUR: 'it returns false'. Refute it at one input. -/
def fnExactSameDiskWrong : ChangeSpec := { name := "fnExactSameDisk", fn := fun _ => fun
  | [d1, d2] => { results := [.lit (.bool false)], args := [d1, d2] }
  | _ => none }
def FnExactSameDiskWrongFalsely : Prop := fnExactSameDiskRow.holds Try.pinned (OpenSpec.ofChange fnExactSameDiskWrong)

/-- 'laws.FnExactValidDisk': WHATEVER THE INPUT: true; the input reads as it did. -/
def fnExactValidDiskSpec : ChangeSpec := { name := "fnExactValidDisk", fn := fun _ => fun
  | [d] => { results := [.lit (.bool true)], args := [d] }
  | _ => none }
def fnExactValidDiskRow : OpenClaim := { program := "ytbgjokadfkblmaa", sum := "9fe35246c4c6e10b9e77e311b56d6391b43ac483cb726eb2df6723525238b997", func := "loop.example/g01254/laws.FnExactValidDisk", spec := "fnExactValidDisk", unfollowed := true, recurses := true, apart := false }
def FnExactValidDiskSaid : Prop := fnExactValidDiskRow.holds Try.pinned (OpenSpec.ofChange fnExactValidDiskSpec)

/-- ITS FALSE NEIGHBOUR: 'it returns false'. Refute it at one input. -/
def fnExactValidDiskWrong : ChangeSpec := { name := "fnExactValidDisk", fn := fun _ => fun
  | [d] => { results := [.lit (.bool false)], args := [d] }
  | _ => none }
def FnExactValidDiskWrongFalsely : Prop := fnExactValidDiskRow.holds Try.pinned (OpenSpec.ofChange fnExactValidDiskWrong)

/-- 'laws.FnEveryClosing': WHATEVER THE INPUT: true; the input reads as it did. -/
def fnEveryClosingSpec : ChangeSpec := { name := "fnEveryClosing", fn := fun _ => fun
  | [d] => { results := [.lit (.bool true)], args := [d] }
  | _ => none }
def fnEveryClosingRow : OpenClaim := { program := "ytbgjokadfkblmaa", sum := "9fe35246c4c6e10b9e77e311b56d6391b43ac483cb726eb2df6723525238b997", func := "loop.example/g01254/laws.FnEveryClosing", spec := "fnEveryClosing", unfollowed := true, recurses := true, apart := false }
def FnEveryClosingSaid : Prop := fnEveryClosingRow.holds Try.pinned (OpenSpec.ofChange fnEveryClosingSpec)

/-- ITS FALSE NEIGHBOUR: 'it returns false'. Refute it at one input. -/
def fnEveryClosingWrong : ChangeSpec := { name := "fnEveryClosing", fn := fun _ => fun
  | [d] => { results := [.lit (.bool false)], args := [d] }
  | _ => none }
def FnEveryClosingWrongFalsely : Prop := fnEveryClosingRow.holds Try.pinned (OpenSpec.ofChange fnEveryClosingWrong)

/-- 'laws.FnExactSameScale': WHATEVER THE INPUT: true; the input reads as it did. -/
def fnExactSameScaleSpec : ChangeSpec := { name := "fnExactSameScale", fn := fun _ => fun
  | [d1, d2] => { results := [.lit (.bool true)], args := [d1, d2] }
  | _ => none }
def fnExactSameScaleRow : OpenClaim := { program := "ytbgjokadfkblmaa", sum := "9fe35246c4c6e10b9e77e311b56d6391b43ac483cb726eb2df6723525238b997", func := "loop.example/g01254/laws.FnExactSameScale", spec := "fnExactSameScale", apart := false }
def FnExactSameScaleSaid : Prop := fnExactSameScaleRow.holds Try.pinned (OpenSpec.ofChange fnExactSameScaleSpec)

/-- ITS FALSE NEIGHBOUR: 'it returns false'. Refute it at one input. -/
def fnExactSameScaleWrong : ChangeSpec := { name := "fnExactSameScale", fn := fun _ => fun
  | [d1, d2] => { results := [.lit (.bool false)], args := [d1, d2] }
  | _ => none }
def FnExactSameScaleWrongFalsely : Prop := fnExactSameScaleRow.holds Try.pinned (OpenSpec.ofChange fnExactSameScaleWrong)

/-- 'laws.FnExactValidScrew': WHATEVER THE INPUT: true; the input reads as it did. -/
def fnExactValidScrewSpec : ChangeSpec := { name := "fnExactValidScrew", fn := fun _ => fun
  | [d] => { results := [.lit (.bool true)], args := [d] }
  | _ => none }
def fnExactValidScrewRow : OpenClaim := { program := "ytbgjokadfkblmaa", sum := "9fe35246c4c6e10b9e77e311b56d6391b43ac483cb726eb2df6723525238b997", func := "loop.example/g01254/laws.FnExactValidScrew", spec := "fnExactValidScrew", unfollowed := true, recurses := true, apart := false }
def FnExactValidScrewSaid : Prop := fnExactValidScrewRow.holds Try.pinned (OpenSpec.ofChange fnExactValidScrewSpec)

/-- ITS FALSE NEIGHBOUR: 'it returns false'. Refute it at one input. -/
def fnExactValidScrewWrong : ChangeSpec := { name := "fnExactValidScrew", fn := fun _ => fun
  | [d] => { results := [.lit (.bool false)], args := [d] }
  | _ => none }
def FnExactValidScrewWrongFalsely : Prop := fnExactValidScrewRow.holds Try.pinned (OpenSpec.ofChange fnExactValidScrewWrong)

/-- 'laws.FnExactInSpan': WHATEVER THE INPUT: true; the input reads as it did. -/
def fnExactInSpanSpec : ChangeSpec := { name := "fnExactInSpan", fn := fun _ => fun
  | [d1, d2] => { results := [.lit (.bool true)], args := [d1, d2] }
  | _ => none }
def fnExactInSpanRow : OpenClaim := { program := "ytbgjokadfkblmaa", sum := "9fe35246c4c6e10b9e77e311b56d6391b43ac483cb726eb2df6723525238b997", func := "loop.example/g01254/laws.FnExactInSpan", spec := "fnExactInSpan", unfollowed := true, recurses := true, apart := false }
def FnExactInSpanSaid : Prop := fnExactInSpanRow.holds Try.pinned (OpenSpec.ofChange fnExactInSpanSpec)

/-- ITS FALSE NEIGHBOUR: 'it returns false'. Refute it at one input. -/
def fnExactInSpanWrong : ChangeSpec := { name := "fnExactInSpan", fn := fun _ => fun
  | [d1, d2] => { results := [.lit (.bool false)], args := [d1, d2] }
  | _ => none }
def FnExactInSpanWrongFalsely : Prop := fnExactInSpanRow.holds Try.pinned (OpenSpec.ofChange fnExactInSpanWrong)

/-- 'laws.FnExactNearestTo': WHATEVER THE INPUT: true; the input reads as it did. -/
def fnExactNearestToSpec : ChangeSpec := { name := "fnExactNearestTo", fn := fun _ => fun
  | [d1, d2] => { results := [.lit (.bool true)], args := [d1, d2] }
  | _ => none }
def fnExactNearestToRow : OpenClaim := { program := "ytbgjokadfkblmaa", sum := "9fe35246c4c6e10b9e77e311b56d6391b43ac483cb726eb2df6723525238b997", func := "loop.example/g01254/laws.FnExactNearestTo", spec := "fnExactNearestTo", unfollowed := true, recurses := true, apart := false }
def FnExactNearestToSaid : Prop := fnExactNearestToRow.holds Try.pinned (OpenSpec.ofChange fnExactNearestToSpec)

/-- ITS FALSE NEIGHBOUR: 'it returns false'. Refute it at one input. -/
def fnExactNearestToWrong : ChangeSpec := { name := "fnExactNearestTo", fn := fun _ => fun
  | [d1, d2] => { results := [.lit (.bool false)], args := [d1, d2] }
  | _ => none }
def FnExactNearestToWrongFalsely : Prop := fnExactNearestToRow.holds Try.pinned (OpenSpec.ofChange fnExactNearestToWrong)

/-- 'laws.FnExactSumOf': WHATEVER THE INPUT: true; the input reads as it did. -/
def fnExactSumOfSpec : ChangeSpec := { name := "fnExactSumOf", fn := fun _ => fun
  | [d] => { results := [.lit (.bool true)], args := [d] }
  | _ => none }
def fnExactSumOfRow : OpenClaim := { program := "ytbgjokadfkblmaa", sum := "9fe35246c4c6e10b9e77e311b56d6391b43ac483cb726eb2df6723525238b997", func := "loop.example/g01254/laws.FnExactSumOf", spec := "fnExactSumOf", unfollowed := true, recurses := true, apart := false }
def FnExactSumOfSaid : Prop := fnExactSumOfRow.holds Try.pinned (OpenSpec.ofChange fnExactSumOfSpec)

/-- ITS FALSE NEIGHBOUR: 'it returns false'. Refute it at one input. -/
def fnExactSumOfWrong : ChangeSpec := { name := "fnExactSumOf", fn := fun _ => fun
  | [d] => { results := [.lit (.bool false)], args := [d] }
  | _ => none }
def FnExactSumOfWrongFalsely : Prop := fnExactSumOfRow.holds Try.pinned (OpenSpec.ofChange fnExactSumOfWrong)

/-- 'laws.FnExactHullOf': WHATEVER THE INPUT: true; the input reads as it did. -/
def fnExactHullOfSpec : ChangeSpec := { name := "fnExactHullOf", fn := fun _ => fun
  | [d] => { results := [.lit (.bool true)], args := [d] }
  | _ => none }
def fnExactHullOfRow : OpenClaim := { program := "ytbgjokadfkblmaa", sum := "9fe35246c4c6e10b9e77e311b56d6391b43ac483cb726eb2df6723525238b997", func := "loop.example/g01254/laws.FnExactHullOf", spec := "fnExactHullOf", unfollowed := true, recurses := true, apart := false }
def FnExactHullOfSaid : Prop := fnExactHullOfRow.holds Try.pinned (OpenSpec.ofChange fnExactHullOfSpec)

/-- ITS FALSE NEIGHBOUR: 'it returns false'. Refute it at one input. -/
def fnExactHullOfWrong : ChangeSpec := { name := "fnExactHullOf", fn := fun _ => fun
  | [d] => { results := [.lit (.bool false)], args := [d] }
  | _ => none }
def FnExactHullOfWrongFalsely : Prop := fnExactHullOfRow.holds Try.pinned (OpenSpec.ofChange fnExactHullOfWrong)

/-- 'laws.FnExactValidSpindle': WHATEVER THE INPUT: true; the input reads as it did. -/
def fnExactValidSpindleSpec : ChangeSpec := { name := "fnExactValidSpindle", fn := fun _ => fun
  | [d1, d2] => { results := [.lit (.bool true)], args := [d1, d2] }
  | _ => none }
def fnExactValidSpindleRow : OpenClaim := { program := "ytbgjokadfkblmaa", sum := "9fe35246c4c6e10b9e77e311b56d6391b43ac483cb726eb2df6723525238b997", func := "loop.example/g01254/laws.FnExactValidSpindle", spec := "fnExactValidSpindle", unfollowed := true, recurses := true, apart := false }
def FnExactValidSpindleSaid : Prop := fnExactValidSpindleRow.holds Try.pinned (OpenSpec.ofChange fnExactValidSpindleSpec)

/-- ITS FALSE NEIGHBOUR: 'it returns false'. Refute it at one input. -/
def fnExactValidSpindleWrong : ChangeSpec := { name := "fnExactValidSpindle", fn := fun _ => fun
  | [d1, d2] => { results := [.lit (.bool false)], args := [d1, d2] }
  | _ => none }
def FnExactValidSpindleWrongFalsely : Prop := fnExactValidSpindleRow.holds Try.pinned (OpenSpec.ofChange fnExactValidSpindleWrong)

/-- 'laws.FnExactMeanOf': WHATEVER THE INPUT: true; the input reads as it did. -/
def fnExactMeanOfSpec : ChangeSpec := { name := "fnExactMeanOf", fn := fun _ => fun
  | [d] => { results := [.lit (.bool true)], args := [d] }
  | _ => none }
def fnExactMeanOfRow : OpenClaim := { program := "ytbgjokadfkblmaa", sum := "9fe35246c4c6e10b9e77e311b56d6391b43ac483cb726eb2df6723525238b997", func := "loop.example/g01254/laws.FnExactMeanOf", spec := "fnExactMeanOf", unfollowed := true, recurses := true, apart := false }
def FnExactMeanOfSaid : Prop := fnExactMeanOfRow.holds Try.pinned (OpenSpec.ofChange fnExactMeanOfSpec)

/-- ITS FALSE NEIGHBOUR: 'it returns false'. Refute it at one input. -/
def fnExactMeanOfWrong : ChangeSpec := { name := "fnExactMeanOf", fn := fun _ => fun
  | [d] => { results := [.lit (.bool false)], args := [d] }
  | _ => none }
def FnExactMeanOfWrongFalsely : Prop := fnExactMeanOfRow.holds Try.pinned (OpenSpec.ofChange fnExactMeanOfWrong)

/-- 'laws.FnExactValidScale': WHATEVER THE INPUT: true; the input reads as it did. -/
def fnExactValidScaleSpec : ChangeSpec := { name := "fnExactValidScale", fn := fun _ => fun
  | [d] => { results := [.lit (.bool true)], args := [d] }
  | _ => none }
def fnExactValidScaleRow : OpenClaim := { program := "ytbgjokadfkblmaa", sum := "9fe35246c4c6e10b9e77e311b56d6391b43ac483cb726eb2df6723525238b997", func := "loop.example/g01254/laws.FnExactValidScale", spec := "fnExactValidScale", unfollowed := true, recurses := true, apart := false }
def FnExactValidScaleSaid : Prop := fnExactValidScaleRow.holds Try.pinned (OpenSpec.ofChange fnExactValidScaleSpec)

/-- ITS FALSE NEIGHBOUR: 'it returns false'. Refute it at one input. -/
def fnExactValidScaleWrong : ChangeSpec := { name := "fnExactValidScale", fn := fun _ => fun
  | [d] => { results := [.lit (.bool false)], args := [d] }
  | _ => none }
def FnExactValidScaleWrongFalsely : Prop := fnExactValidScaleRow.holds Try.pinned (OpenSpec.ofChange fnExactValidScaleWrong)

/-- 'laws.FnExactReadSpindle': WHATEVER THE INPUT: true; the input reads as it did. -/
def fnExactReadSpindleSpec : ChangeSpec := { name := "fnExactReadSpindle", fn := fun _ => fun
  | [d1, d2] => { results := [.lit (.bool true)], args := [d1, d2] }
  | _ => none }
def fnExactReadSpindleRow : OpenClaim := { program := "ytbgjokadfkblmaa", sum := "9fe35246c4c6e10b9e77e311b56d6391b43ac483cb726eb2df6723525238b997", func := "loop.example/g01254/laws.FnExactReadSpindle", spec := "fnExactReadSpindle", unfollowed := true, recurses := true, apart := false }
def FnExactReadSpindleSaid : Prop := fnExactReadSpindleRow.holds Try.pinned (OpenSpec.ofChange fnExactReadSpindleSpec)

/-- ITS FALSE NEIGHBOUR: 'it returns false'. Refute it at one input. -/
def fnExactReadSpindleWrong : ChangeSpec := { name := "fnExactReadSpindle", fn := fun _ => fun
  | [d1, d2] => { results := [.lit (.bool false)], args := [d1, d2] }
  | _ => none }
def FnExactReadSpindleWrongFalsely : Prop := fnExactReadSpindleRow.holds Try.pinned (OpenSpec.ofChange fnExactReadSpindleWrong)

/-- 'laws.FnExactMarkAt': WHATEVER THE INPUT: true; the input reads as it did. -/
def fnExactMarkAtSpec : ChangeSpec := { name := "fnExactMarkAt", fn := fun _ => fun
  | [d1, d2] => { results := [.lit (.bool true)], args := [d1, d2] }
  | _ => none }
def fnExactMarkAtRow : OpenClaim := { program := "ytbgjokadfkblmaa", sum := "9fe35246c4c6e10b9e77e311b56d6391b43ac483cb726eb2df6723525238b997", func := "loop.example/g01254/laws.FnExactMarkAt", spec := "fnExactMarkAt", unfollowed := true, recurses := true, apart := false }
def FnExactMarkAtSaid : Prop := fnExactMarkAtRow.holds Try.pinned (OpenSpec.ofChange fnExactMarkAtSpec)

/-- ITS FALSE NEIGHBOUR: 'it returns false'. Refute it at one input. -/
def fnExactMarkAtWrong : ChangeSpec := { name := "fnExactMarkAt", fn := fun _ => fun
  | [d1, d2] => { results := [.lit (.bool false)], args := [d1, d2] }
  | _ => none }
def FnExactMarkAtWrongFalsely : Prop := fnExactMarkAtRow.holds Try.pinned (OpenSpec.ofChange fnExactMarkAtWrong)

/- THE SECOND FORM. 'bulk': how many values and letters a reading holds, each counted each time it is reached (what is shared counts as often as it is met; a slice's spare places count too). A statement '..UptoSaid' is the law's where the arguments, and the package variables that the reading takes, are together of bulk at most 1048576: NARROWER than '..Said'. Prove '..Said' where nothing that the law and all that it calls make is longer than what came in: it says more and counts as full. Else prove '..UptoSaid'. A law counts once. -/
mutual
def uptoBulk {H : Type} : DataW H → Nat
  | .lit (.string bytes) => bytes.length + 1
  | .lit _ => 1
  | .nil => 1
  | .ptr d => uptoBulk d + 1
  | .slice elems spare => uptoBulkAll elems + uptoBulkAll spare + 1
  | .agg parts => uptoBulkAll parts + 1
  | .iface _ d => uptoBulk d + 1
  | .map entries => uptoBulkEntries entries + 1
  | .held _ => 1
def uptoBulkAll {H : Type} : List (DataW H) → Nat
  | [] => 0
  | d :: r => uptoBulk d + uptoBulkAll r
def uptoBulkEntries {H : Type} : List (Lit × DataW H) → Nat
  | [] => 0
  | x :: r => uptoBulkEntry x + uptoBulkEntries r
def uptoBulkEntry {H : Type} : Lit × DataW H → Nat
  | (.string bytes, d) => bytes.length + uptoBulk d + 1
  | (_, d) => uptoBulk d + 1
 end
def uptoSmall : (H : Type) → List (DataW H) → Bool := fun _ ds => decide (uptoBulkAll ds ≤ 1048576)
def OpenSpec.upto (s : _root_.Go.ChangeSpec) : _root_.Go.OpenSpec := { _root_.Go.OpenSpec.ofChange s with cond := some uptoSmall }

/-- 'laws.FnScrews', WHERE WHAT IT READS IS OF BULK AT MOST 1048576: true; the input reads as it did. -/
def fnScrewsUptoRow : OpenClaim := { program := "ytbgjokadfkblmaa", sum := "9fe35246c4c6e10b9e77e311b56d6391b43ac483cb726eb2df6723525238b997", func := "loop.example/g01254/laws.FnScrews", spec := "fnScrews", unfollowed := true, recurses := true, apart := false, narrowed := true }
def FnScrewsUptoSaid : Prop := fnScrewsUptoRow.holds Try.pinned (OpenSpec.upto fnScrewsSpec)

/-- 'laws.FnExactClosingOf', WHERE WHAT IT READS IS OF BULK AT MOST 1048576: true; the input reads as it did. -/
def fnExactClosingOfUptoRow : OpenClaim := { program := "ytbgjokadfkblmaa", sum := "9fe35246c4c6e10b9e77e311b56d6391b43ac483cb726eb2df6723525238b997", func := "loop.example/g01254/laws.FnExactClosingOf", spec := "fnExactClosingOf", unfollowed := true, recurses := true, apart := false, narrowed := true }
def FnExactClosingOfUptoSaid : Prop := fnExactClosingOfUptoRow.holds Try.pinned (OpenSpec.upto fnExactClosingOfSpec)

/-- 'laws.FnExactSameDisk', WHERE WHAT IT READS IS OF BULK AT MOST 1048576: true; the input reads as it did. -/
def fnExactSameDiskUptoRow : OpenClaim := { program := "ytbgjokadfkblmaa", sum := "9fe35246c4c6e10b9e77e311b56d6391b43ac483cb726eb2df6723525238b997", func := "loop.example/g01254/laws.FnExactSameDisk", spec := "fnExactSameDisk", apart := false, narrowed := true }
def FnExactSameDiskUptoSaid : Prop := fnExactSameDiskUptoRow.holds Try.pinned (OpenSpec.upto fnExactSameDiskSpec)

/-- 'laws.FnExactValidDisk', WHERE WHAT IT READS IS OF BULK AT MOST 1048576: true; the input reads as it did. -/
def fnExactValidDiskUptoRow : OpenClaim := { program := "ytbgjokadfkblmaa", sum := "9fe35246c4c6e10b9e77e311b56d6391b43ac483cb726eb2df6723525238b997", func := "loop.example/g01254/laws.FnExactValidDisk", spec := "fnExactValidDisk", unfollowed := true, recurses := true, apart := false, narrowed := true }
def FnExactValidDiskUptoSaid : Prop := fnExactValidDiskUptoRow.holds Try.pinned (OpenSpec.upto fnExactValidDiskSpec)

/-- 'laws.FnEveryClosing', WHERE WHAT IT READS IS OF BULK AT MOST 1048576: true; the input reads as it did. -/
def fnEveryClosingUptoRow : OpenClaim := { program := "ytbgjokadfkblmaa", sum := "9fe35246c4c6e10b9e77e311b56d6391b43ac483cb726eb2df6723525238b997", func := "loop.example/g01254/laws.FnEveryClosing", spec := "fnEveryClosing", unfollowed := true, recurses := true, apart := false, narrowed := true }
def FnEveryClosingUptoSaid : Prop := fnEveryClosingUptoRow.holds Try.pinned (OpenSpec.upto fnEveryClosingSpec)

/-- 'laws.FnExactSameScale', WHERE WHAT IT READS IS OF BULK AT MOST 1048576: true; the input reads as it did. -/
def fnExactSameScaleUptoRow : OpenClaim := { program := "ytbgjokadfkblmaa", sum := "9fe35246c4c6e10b9e77e311b56d6391b43ac483cb726eb2df6723525238b997", func := "loop.example/g01254/laws.FnExactSameScale", spec := "fnExactSameScale", apart := false, narrowed := true }
def FnExactSameScaleUptoSaid : Prop := fnExactSameScaleUptoRow.holds Try.pinned (OpenSpec.upto fnExactSameScaleSpec)

/-- 'laws.FnExactValidScrew', WHERE WHAT IT READS IS OF BULK AT MOST 1048576: true; the input reads as it did. -/
def fnExactValidScrewUptoRow : OpenClaim := { program := "ytbgjokadfkblmaa", sum := "9fe35246c4c6e10b9e77e311b56d6391b43ac483cb726eb2df6723525238b997", func := "loop.example/g01254/laws.FnExactValidScrew", spec := "fnExactValidScrew", unfollowed := true, recurses := true, apart := false, narrowed := true }
def FnExactValidScrewUptoSaid : Prop := fnExactValidScrewUptoRow.holds Try.pinned (OpenSpec.upto fnExactValidScrewSpec)

/-- 'laws.FnExactInSpan', WHERE WHAT IT READS IS OF BULK AT MOST 1048576: true; the input reads as it did. -/
def fnExactInSpanUptoRow : OpenClaim := { program := "ytbgjokadfkblmaa", sum := "9fe35246c4c6e10b9e77e311b56d6391b43ac483cb726eb2df6723525238b997", func := "loop.example/g01254/laws.FnExactInSpan", spec := "fnExactInSpan", unfollowed := true, recurses := true, apart := false, narrowed := true }
def FnExactInSpanUptoSaid : Prop := fnExactInSpanUptoRow.holds Try.pinned (OpenSpec.upto fnExactInSpanSpec)

/-- 'laws.FnExactNearestTo', WHERE WHAT IT READS IS OF BULK AT MOST 1048576: true; the input reads as it did. -/
def fnExactNearestToUptoRow : OpenClaim := { program := "ytbgjokadfkblmaa", sum := "9fe35246c4c6e10b9e77e311b56d6391b43ac483cb726eb2df6723525238b997", func := "loop.example/g01254/laws.FnExactNearestTo", spec := "fnExactNearestTo", unfollowed := true, recurses := true, apart := false, narrowed := true }
def FnExactNearestToUptoSaid : Prop := fnExactNearestToUptoRow.holds Try.pinned (OpenSpec.upto fnExactNearestToSpec)

/-- 'laws.FnExactSumOf', WHERE WHAT IT READS IS OF BULK AT MOST 1048576: true; the input reads as it did. -/
def fnExactSumOfUptoRow : OpenClaim := { program := "ytbgjokadfkblmaa", sum := "9fe35246c4c6e10b9e77e311b56d6391b43ac483cb726eb2df6723525238b997", func := "loop.example/g01254/laws.FnExactSumOf", spec := "fnExactSumOf", unfollowed := true, recurses := true, apart := false, narrowed := true }
def FnExactSumOfUptoSaid : Prop := fnExactSumOfUptoRow.holds Try.pinned (OpenSpec.upto fnExactSumOfSpec)

/-- 'laws.FnExactHullOf', WHERE WHAT IT READS IS OF BULK AT MOST 1048576: true; the input reads as it did. -/
def fnExactHullOfUptoRow : OpenClaim := { program := "ytbgjokadfkblmaa", sum := "9fe35246c4c6e10b9e77e311b56d6391b43ac483cb726eb2df6723525238b997", func := "loop.example/g01254/laws.FnExactHullOf", spec := "fnExactHullOf", unfollowed := true, recurses := true, apart := false, narrowed := true }
def FnExactHullOfUptoSaid : Prop := fnExactHullOfUptoRow.holds Try.pinned (OpenSpec.upto fnExactHullOfSpec)

/-- 'laws.FnExactValidSpindle', WHERE WHAT IT READS IS OF BULK AT MOST 1048576: true; the input reads as it did. -/
def fnExactValidSpindleUptoRow : OpenClaim := { program := "ytbgjokadfkblmaa", sum := "9fe35246c4c6e10b9e77e311b56d6391b43ac483cb726eb2df6723525238b997", func := "loop.example/g01254/laws.FnExactValidSpindle", spec := "fnExactValidSpindle", unfollowed := true, recurses := true, apart := false, narrowed := true }
def FnExactValidSpindleUptoSaid : Prop := fnExactValidSpindleUptoRow.holds Try.pinned (OpenSpec.upto fnExactValidSpindleSpec)

/-- 'laws.FnExactMeanOf', WHERE WHAT IT READS IS OF BULK AT MOST 1048576: true; the input reads as it did. -/
def fnExactMeanOfUptoRow : OpenClaim := { program := "ytbgjokadfkblmaa", sum := "9fe35246c4c6e10b9e77e311b56d6391b43ac483cb726eb2df6723525238b997", func := "loop.example/g01254/laws.FnExactMeanOf", spec := "fnExactMeanOf", unfollowed := true, recurses := true, apart := false, narrowed := true }
def FnExactMeanOfUptoSaid : Prop := fnExactMeanOfUptoRow.holds Try.pinned (OpenSpec.upto fnExactMeanOfSpec)

/-- 'laws.FnExactValidScale', WHERE WHAT IT READS IS OF BULK AT MOST 1048576: true; the input reads as it did. -/
def fnExactValidScaleUptoRow : OpenClaim := { program := "ytbgjokadfkblmaa", sum := "9fe35246c4c6e10b9e77e311b56d6391b43ac483cb726eb2df6723525238b997", func := "loop.example/g01254/laws.FnExactValidScale", spec := "fnExactValidScale", unfollowed := true, recurses := true, apart := false, narrowed := true }
def FnExactValidScaleUptoSaid : Prop := fnExactValidScaleUptoRow.holds Try.pinned (OpenSpec.upto fnExactValidScaleSpec)

/-- 'laws.FnExactReadSpindle', WHERE WHAT IT READS IS OF BULK AT MOST 1048576: true; the input reads as it did. -/
def fnExactReadSpindleUptoRow : OpenClaim := { program := "ytbgjokadfkblmaa", sum := "9fe35246c4c6e10b9e77e311b56d6391b43ac483cb726eb2df6723525238b997", func := "loop.example/g01254/laws.FnExactReadSpindle", spec := "fnExactReadSpindle", unfollowed := true, recurses := true, apart := false, narrowed := true }
def FnExactReadSpindleUptoSaid : Prop := fnExactReadSpindleUptoRow.holds Try.pinned (OpenSpec.upto fnExactReadSpindleSpec)

/-- 'laws.FnExactMarkAt', WHERE WHAT IT READS IS OF BULK AT MOST 1048576: true; the input reads as it did. -/
def fnExactMarkAtUptoRow : OpenClaim := { program := "ytbgjokadfkblmaa", sum := "9fe35246c4c6e10b9e77e311b56d6391b43ac483cb726eb2df6723525238b997", func := "loop.example/g01254/laws.FnExactMarkAt", spec := "fnExactMarkAt", unfollowed := true, recurses := true, apart := false, narrowed := true }
def FnExactMarkAtUptoSaid : Prop := fnExactMarkAtUptoRow.holds Try.pinned (OpenSpec.upto fnExactMarkAtSpec)

end Rows
end Go.Proofs.Ytbgjokadfkblmaa
