/-
  No cell of these rows narrows 'for every input' (looked for: loops, veiled, ifaces, maps, wideKeys, modest, calm, conditions, laid).
  DERIVED. THE GIVEN ROWS OF THIS SEAT. 15 by the template 'for every input the law returns true; each argument reads behind the call as it read before'; 0 by the template 'total and deterministic' (their statements: YtbgjokadfkblmabTotals.lean).
  GIVEN WITH THE SEED: the statements are not yours to turn. If you find one false, say at which input.
  Laid BY PROGRAM, IN A SANDBOX (cutbox-rows.mjs): the forced cells as the released guide's own fill.sh prints them over the translation 0f49b48dd67a1155… (all of the seat's roots in one cut). By AI agents, Wed Nov 11 2026. No macro, syntax, notation, axiom, sorry.
-/
import Derived.Test.YtbgjokadfkblmabChecked
import GoSem.Claim
import GoSem.ClaimJoined
import GoSem.ClaimMapViews
import Derived.JoinedTies
import Derived.KernelRfl
namespace Go.Proofs.Ytbgjokadfkblmab
/- THE CELL 'sum', in the pinned program and in every row, IS THE sha256 OF THE DUMP (.gsa) THAT YtbgjokadfkblmabProg.lean LOADS. Nothing in Lean hashes anything: it is a label: what it is worth is what the hold of that sum in a sandbox is worth. -/
noncomputable def Try.pinned : Pinned := { name := "ytbgjokadfkblmab", sum := "0f49b48dd67a11551b265687d61c1cbe3f200be12362fbcdaadf3c74f21902ac", checked := Try.checked }
namespace Rows
def none {H : Type} : Left H := { results := [], args := [] }

/-- 'laws.FnExactLeastCount': WHATEVER THE INPUT: true; the input reads as it did. -/
def fnExactLeastCountSpec : ChangeSpec := { name := "fnExactLeastCount", fn := fun _ => fun
  | [d1, d2] => { results := [.lit (.bool true)], args := [d1, d2] }
  | _ => none }
def fnExactLeastCountRow : OpenClaim := { program := "ytbgjokadfkblmab", sum := "0f49b48dd67a11551b265687d61c1cbe3f200be12362fbcdaadf3c74f21902ac", func := "loop.example/g01254/laws.FnExactLeastCount", spec := "fnExactLeastCount", unfollowed := true, recurses := true, apart := false }
def FnExactLeastCountSaid : Prop := fnExactLeastCountRow.holds Try.pinned (OpenSpec.ofChange fnExactLeastCountSpec)

/-- ITS FALSE NEIGHBOUR: 'it returns false'. Refute it at one input. -/
def fnExactLeastCountWrong : ChangeSpec := { name := "fnExactLeastCount", fn := fun _ => fun
  | [d1, d2] => { results := [.lit (.bool false)], args := [d1, d2] }
  | _ => none }
def FnExactLeastCountWrongFalsely : Prop := fnExactLeastCountRow.holds Try.pinned (OpenSpec.ofChange fnExactLeastCountWrong)

/-- 'laws.FnExactWorstError': WHATEVER THE INPUT: true; the input reads as it did. -/
def fnExactWorstErrorSpec : ChangeSpec := { name := "fnExactWorstError", fn := fun _ => fun
  | [d] => { results := [.lit (.bool true)], args := [d] }
  | _ => none }
def fnExactWorstErrorRow : OpenClaim := { program := "ytbgjokadfkblmab", sum := "0f49b48dd67a11551b265687d61c1cbe3f200be12362fbcdaadf3c74f21902ac", func := "loop.example/g01254/laws.FnExactWorstError", spec := "fnExactWorstError", unfollowed := true, recurses := true, apart := false }
def FnExactWorstErrorSaid : Prop := fnExactWorstErrorRow.holds Try.pinned (OpenSpec.ofChange fnExactWorstErrorSpec)

/-- ITS FALSE NEIGHBOUR: 'it returns false'. Refute it at one input. -/
def fnExactWorstErrorWrong : ChangeSpec := { name := "fnExactWorstError", fn := fun _ => fun
  | [d] => { results := [.lit (.bool false)], args := [d] }
  | _ => none }
def FnExactWorstErrorWrongFalsely : Prop := fnExactWorstErrorRow.holds Try.pinned (OpenSpec.ofChange fnExactWorstErrorWrong)

/-- 'laws.FnExactTurnSpindle': WHATEVER THE INPUT: true; the input reads as it did. -/
def fnExactTurnSpindleSpec : ChangeSpec := { name := "fnExactTurnSpindle", fn := fun _ => fun
  | [d1, d2, d3] => { results := [.lit (.bool true)], args := [d1, d2, d3] }
  | _ => none }
def fnExactTurnSpindleRow : OpenClaim := { program := "ytbgjokadfkblmab", sum := "0f49b48dd67a11551b265687d61c1cbe3f200be12362fbcdaadf3c74f21902ac", func := "loop.example/g01254/laws.FnExactTurnSpindle", spec := "fnExactTurnSpindle", unfollowed := true, recurses := true, apart := false }
def FnExactTurnSpindleSaid : Prop := fnExactTurnSpindleRow.holds Try.pinned (OpenSpec.ofChange fnExactTurnSpindleSpec)

/-- ITS FALSE NEIGHBOUR: 'it returns false'. Refute it at one input. -/
def fnExactTurnSpindleWrong : ChangeSpec := { name := "fnExactTurnSpindle", fn := fun _ => fun
  | [d1, d2, d3] => { results := [.lit (.bool false)], args := [d1, d2, d3] }
  | _ => none }
def FnExactTurnSpindleWrongFalsely : Prop := fnExactTurnSpindleRow.holds Try.pinned (OpenSpec.ofChange fnExactTurnSpindleWrong)

/-- 'laws.FnExactNearestMark': WHATEVER THE INPUT: true; the input reads as it did. -/
def fnExactNearestMarkSpec : ChangeSpec := { name := "fnExactNearestMark", fn := fun _ => fun
  | [d1, d2] => { results := [.lit (.bool true)], args := [d1, d2] }
  | _ => none }
def fnExactNearestMarkRow : OpenClaim := { program := "ytbgjokadfkblmab", sum := "0f49b48dd67a11551b265687d61c1cbe3f200be12362fbcdaadf3c74f21902ac", func := "loop.example/g01254/laws.FnExactNearestMark", spec := "fnExactNearestMark", unfollowed := true, recurses := true, apart := false }
def FnExactNearestMarkSaid : Prop := fnExactNearestMarkRow.holds Try.pinned (OpenSpec.ofChange fnExactNearestMarkSpec)

/-- ITS FALSE NEIGHBOUR: 'it returns false'. Refute it at one input. -/
def fnExactNearestMarkWrong : ChangeSpec := { name := "fnExactNearestMark", fn := fun _ => fun
  | [d1, d2] => { results := [.lit (.bool false)], args := [d1, d2] }
  | _ => none }
def FnExactNearestMarkWrongFalsely : Prop := fnExactNearestMarkRow.holds Try.pinned (OpenSpec.ofChange fnExactNearestMarkWrong)

/-- 'laws.FnExactLineAt': WHATEVER THE INPUT: true; the input reads as it did. -/
def fnExactLineAtSpec : ChangeSpec := { name := "fnExactLineAt", fn := fun _ => fun
  | [d1, d2, d3, d4] => { results := [.lit (.bool true)], args := [d1, d2, d3, d4] }
  | _ => none }
def fnExactLineAtRow : OpenClaim := { program := "ytbgjokadfkblmab", sum := "0f49b48dd67a11551b265687d61c1cbe3f200be12362fbcdaadf3c74f21902ac", func := "loop.example/g01254/laws.FnExactLineAt", spec := "fnExactLineAt", unfollowed := true, recurses := true, apart := false }
def FnExactLineAtSaid : Prop := fnExactLineAtRow.holds Try.pinned (OpenSpec.ofChange fnExactLineAtSpec)

/-- ITS FALSE NEIGHBOUR: 'it returns false'. Refute it at one input. -/
def fnExactLineAtWrong : ChangeSpec := { name := "fnExactLineAt", fn := fun _ => fun
  | [d1, d2, d3, d4] => { results := [.lit (.bool false)], args := [d1, d2, d3, d4] }
  | _ => none }
def FnExactLineAtWrongFalsely : Prop := fnExactLineAtRow.holds Try.pinned (OpenSpec.ofChange fnExactLineAtWrong)

/-- 'laws.FnExactWarmScale': WHATEVER THE INPUT: true; the input reads as it did. -/
def fnExactWarmScaleSpec : ChangeSpec := { name := "fnExactWarmScale", fn := fun _ => fun
  | [d1, d2] => { results := [.lit (.bool true)], args := [d1, d2] }
  | _ => none }
def fnExactWarmScaleRow : OpenClaim := { program := "ytbgjokadfkblmab", sum := "0f49b48dd67a11551b265687d61c1cbe3f200be12362fbcdaadf3c74f21902ac", func := "loop.example/g01254/laws.FnExactWarmScale", spec := "fnExactWarmScale", unfollowed := true, recurses := true, apart := false }
def FnExactWarmScaleSaid : Prop := fnExactWarmScaleRow.holds Try.pinned (OpenSpec.ofChange fnExactWarmScaleSpec)

/-- ITS FALSE NEIGHBOUR: 'it returns false'. Refute it at one input. -/
def fnExactWarmScaleWrong : ChangeSpec := { name := "fnExactWarmScale", fn := fun _ => fun
  | [d1, d2] => { results := [.lit (.bool false)], args := [d1, d2] }
  | _ => none }
def FnExactWarmScaleWrongFalsely : Prop := fnExactWarmScaleRow.holds Try.pinned (OpenSpec.ofChange fnExactWarmScaleWrong)

/-- 'laws.FnExactCorrectScale': WHATEVER THE INPUT: true; the input reads as it did. -/
def fnExactCorrectScaleSpec : ChangeSpec := { name := "fnExactCorrectScale", fn := fun _ => fun
  | [d1, d2] => { results := [.lit (.bool true)], args := [d1, d2] }
  | _ => none }
def fnExactCorrectScaleRow : OpenClaim := { program := "ytbgjokadfkblmab", sum := "0f49b48dd67a11551b265687d61c1cbe3f200be12362fbcdaadf3c74f21902ac", func := "loop.example/g01254/laws.FnExactCorrectScale", spec := "fnExactCorrectScale", unfollowed := true, recurses := true, apart := false }
def FnExactCorrectScaleSaid : Prop := fnExactCorrectScaleRow.holds Try.pinned (OpenSpec.ofChange fnExactCorrectScaleSpec)

/-- ITS FALSE NEIGHBOUR: 'it returns false'. Refute it at one input. -/
def fnExactCorrectScaleWrong : ChangeSpec := { name := "fnExactCorrectScale", fn := fun _ => fun
  | [d1, d2] => { results := [.lit (.bool false)], args := [d1, d2] }
  | _ => none }
def FnExactCorrectScaleWrongFalsely : Prop := fnExactCorrectScaleRow.holds Try.pinned (OpenSpec.ofChange fnExactCorrectScaleWrong)

/-- 'laws.FnExactEvenScale': WHATEVER THE INPUT: true; the input reads as it did. -/
def fnExactEvenScaleSpec : ChangeSpec := { name := "fnExactEvenScale", fn := fun _ => fun
  | [d1, d2] => { results := [.lit (.bool true)], args := [d1, d2] }
  | _ => none }
def fnExactEvenScaleRow : OpenClaim := { program := "ytbgjokadfkblmab", sum := "0f49b48dd67a11551b265687d61c1cbe3f200be12362fbcdaadf3c74f21902ac", func := "loop.example/g01254/laws.FnExactEvenScale", spec := "fnExactEvenScale", unfollowed := true, recurses := true, apart := false }
def FnExactEvenScaleSaid : Prop := fnExactEvenScaleRow.holds Try.pinned (OpenSpec.ofChange fnExactEvenScaleSpec)

/-- ITS FALSE NEIGHBOUR: 'it returns false'. Refute it at one input. -/
def fnExactEvenScaleWrong : ChangeSpec := { name := "fnExactEvenScale", fn := fun _ => fun
  | [d1, d2] => { results := [.lit (.bool false)], args := [d1, d2] }
  | _ => none }
def FnExactEvenScaleWrongFalsely : Prop := fnExactEvenScaleRow.holds Try.pinned (OpenSpec.ofChange fnExactEvenScaleWrong)

/-- 'laws.FnExactPlayFound': WHATEVER THE INPUT: true; the input reads as it did. -/
def fnExactPlayFoundSpec : ChangeSpec := { name := "fnExactPlayFound", fn := fun _ => fun
  | [d1, d2, d3] => { results := [.lit (.bool true)], args := [d1, d2, d3] }
  | _ => none }
def fnExactPlayFoundRow : OpenClaim := { program := "ytbgjokadfkblmab", sum := "0f49b48dd67a11551b265687d61c1cbe3f200be12362fbcdaadf3c74f21902ac", func := "loop.example/g01254/laws.FnExactPlayFound", spec := "fnExactPlayFound", unfollowed := true, recurses := true, apart := false }
def FnExactPlayFoundSaid : Prop := fnExactPlayFoundRow.holds Try.pinned (OpenSpec.ofChange fnExactPlayFoundSpec)

/-- ITS FALSE NEIGHBOUR: 'it returns false'. Refute it at one input. -/
def fnExactPlayFoundWrong : ChangeSpec := { name := "fnExactPlayFound", fn := fun _ => fun
  | [d1, d2, d3] => { results := [.lit (.bool false)], args := [d1, d2, d3] }
  | _ => none }
def FnExactPlayFoundWrongFalsely : Prop := fnExactPlayFoundRow.holds Try.pinned (OpenSpec.ofChange fnExactPlayFoundWrong)

/-- 'laws.FnExactTurnTo': WHATEVER THE INPUT: true; the input reads as it did. -/
def fnExactTurnToSpec : ChangeSpec := { name := "fnExactTurnTo", fn := fun _ => fun
  | [d1, d2, d3, d4] => { results := [.lit (.bool true)], args := [d1, d2, d3, d4] }
  | _ => none }
def fnExactTurnToRow : OpenClaim := { program := "ytbgjokadfkblmab", sum := "0f49b48dd67a11551b265687d61c1cbe3f200be12362fbcdaadf3c74f21902ac", func := "loop.example/g01254/laws.FnExactTurnTo", spec := "fnExactTurnTo", unfollowed := true, recurses := true, apart := false }
def FnExactTurnToSaid : Prop := fnExactTurnToRow.holds Try.pinned (OpenSpec.ofChange fnExactTurnToSpec)

/-- ITS FALSE NEIGHBOUR: 'it returns false'. Refute it at one input. -/
def fnExactTurnToWrong : ChangeSpec := { name := "fnExactTurnTo", fn := fun _ => fun
  | [d1, d2, d3, d4] => { results := [.lit (.bool false)], args := [d1, d2, d3, d4] }
  | _ => none }
def FnExactTurnToWrongFalsely : Prop := fnExactTurnToRow.holds Try.pinned (OpenSpec.ofChange fnExactTurnToWrong)

/-- 'laws.FnExactMisfitOf': WHATEVER THE INPUT: true; the input reads as it did. -/
def fnExactMisfitOfSpec : ChangeSpec := { name := "fnExactMisfitOf", fn := fun _ => fun
  | [d1, d2, d3, d4] => { results := [.lit (.bool true)], args := [d1, d2, d3, d4] }
  | _ => none }
def fnExactMisfitOfRow : OpenClaim := { program := "ytbgjokadfkblmab", sum := "0f49b48dd67a11551b265687d61c1cbe3f200be12362fbcdaadf3c74f21902ac", func := "loop.example/g01254/laws.FnExactMisfitOf", spec := "fnExactMisfitOf", unfollowed := true, recurses := true, apart := false }
def FnExactMisfitOfSaid : Prop := fnExactMisfitOfRow.holds Try.pinned (OpenSpec.ofChange fnExactMisfitOfSpec)

/-- ITS FALSE NEIGHBOUR: 'it returns false'. Refute it at one input. -/
def fnExactMisfitOfWrong : ChangeSpec := { name := "fnExactMisfitOf", fn := fun _ => fun
  | [d1, d2, d3, d4] => { results := [.lit (.bool false)], args := [d1, d2, d3, d4] }
  | _ => none }
def FnExactMisfitOfWrongFalsely : Prop := fnExactMisfitOfRow.holds Try.pinned (OpenSpec.ofChange fnExactMisfitOfWrong)

/-- 'laws.FnExactReadingSpan': WHATEVER THE INPUT: true; the input reads as it did. -/
def fnExactReadingSpanSpec : ChangeSpec := { name := "fnExactReadingSpan", fn := fun _ => fun
  | [d1, d2, d3] => { results := [.lit (.bool true)], args := [d1, d2, d3] }
  | _ => none }
def fnExactReadingSpanRow : OpenClaim := { program := "ytbgjokadfkblmab", sum := "0f49b48dd67a11551b265687d61c1cbe3f200be12362fbcdaadf3c74f21902ac", func := "loop.example/g01254/laws.FnExactReadingSpan", spec := "fnExactReadingSpan", unfollowed := true, recurses := true, apart := false }
def FnExactReadingSpanSaid : Prop := fnExactReadingSpanRow.holds Try.pinned (OpenSpec.ofChange fnExactReadingSpanSpec)

/-- ITS FALSE NEIGHBOUR: 'it returns false'. Refute it at one input. -/
def fnExactReadingSpanWrong : ChangeSpec := { name := "fnExactReadingSpan", fn := fun _ => fun
  | [d1, d2, d3] => { results := [.lit (.bool false)], args := [d1, d2, d3] }
  | _ => none }
def FnExactReadingSpanWrongFalsely : Prop := fnExactReadingSpanRow.holds Try.pinned (OpenSpec.ofChange fnExactReadingSpanWrong)

/-- 'laws.FnExactLineThatFits': WHATEVER THE INPUT: true; the input reads as it did. -/
def fnExactLineThatFitsSpec : ChangeSpec := { name := "fnExactLineThatFits", fn := fun _ => fun
  | [d1, d2, d3] => { results := [.lit (.bool true)], args := [d1, d2, d3] }
  | _ => none }
def fnExactLineThatFitsRow : OpenClaim := { program := "ytbgjokadfkblmab", sum := "0f49b48dd67a11551b265687d61c1cbe3f200be12362fbcdaadf3c74f21902ac", func := "loop.example/g01254/laws.FnExactLineThatFits", spec := "fnExactLineThatFits", unfollowed := true, recurses := true, apart := false }
def FnExactLineThatFitsSaid : Prop := fnExactLineThatFitsRow.holds Try.pinned (OpenSpec.ofChange fnExactLineThatFitsSpec)

/-- ITS FALSE NEIGHBOUR: 'it returns false'. Refute it at one input. -/
def fnExactLineThatFitsWrong : ChangeSpec := { name := "fnExactLineThatFits", fn := fun _ => fun
  | [d1, d2, d3] => { results := [.lit (.bool false)], args := [d1, d2, d3] }
  | _ => none }
def FnExactLineThatFitsWrongFalsely : Prop := fnExactLineThatFitsRow.holds Try.pinned (OpenSpec.ofChange fnExactLineThatFitsWrong)

/-- 'laws.FnExactMulSpans': WHATEVER THE INPUT: true; the input reads as it did. -/
def fnExactMulSpansSpec : ChangeSpec := { name := "fnExactMulSpans", fn := fun _ => fun
  | [d1, d2] => { results := [.lit (.bool true)], args := [d1, d2] }
  | _ => none }
def fnExactMulSpansRow : OpenClaim := { program := "ytbgjokadfkblmab", sum := "0f49b48dd67a11551b265687d61c1cbe3f200be12362fbcdaadf3c74f21902ac", func := "loop.example/g01254/laws.FnExactMulSpans", spec := "fnExactMulSpans", unfollowed := true, recurses := true, apart := false }
def FnExactMulSpansSaid : Prop := fnExactMulSpansRow.holds Try.pinned (OpenSpec.ofChange fnExactMulSpansSpec)

/-- ITS FALSE NEIGHBOUR: 'it returns false'. Refute it at one input. -/
def fnExactMulSpansWrong : ChangeSpec := { name := "fnExactMulSpans", fn := fun _ => fun
  | [d1, d2] => { results := [.lit (.bool false)], args := [d1, d2] }
  | _ => none }
def FnExactMulSpansWrongFalsely : Prop := fnExactMulSpansRow.holds Try.pinned (OpenSpec.ofChange fnExactMulSpansWrong)

/-- 'laws.FnExactMiddleOf': WHATEVER THE INPUT: true; the input reads as it did. -/
def fnExactMiddleOfSpec : ChangeSpec := { name := "fnExactMiddleOf", fn := fun _ => fun
  | [d] => { results := [.lit (.bool true)], args := [d] }
  | _ => none }
def fnExactMiddleOfRow : OpenClaim := { program := "ytbgjokadfkblmab", sum := "0f49b48dd67a11551b265687d61c1cbe3f200be12362fbcdaadf3c74f21902ac", func := "loop.example/g01254/laws.FnExactMiddleOf", spec := "fnExactMiddleOf", unfollowed := true, recurses := true, apart := false }
def FnExactMiddleOfSaid : Prop := fnExactMiddleOfRow.holds Try.pinned (OpenSpec.ofChange fnExactMiddleOfSpec)

/-- ITS FALSE NEIGHBOUR: 'it returns false'. Refute it at one input. -/
def fnExactMiddleOfWrong : ChangeSpec := { name := "fnExactMiddleOf", fn := fun _ => fun
  | [d] => { results := [.lit (.bool false)], args := [d] }
  | _ => none }
def FnExactMiddleOfWrongFalsely : Prop := fnExactMiddleOfRow.holds Try.pinned (OpenSpec.ofChange fnExactMiddleOfWrong)

/- THE SECOND FORM. 'bulk': how many values and letters a reading holds, each counted each time it is reached (what is shared counts as often as it is met; a slice's spare places count too). A statement '..UptoSaid' is the law's where the arguments, and the package variables that the reading takes, are together of bulk at most 1048576: NARROWER than '..Said'. Prove '..Said' where nothing that the law and all that it calls make is longer than what came in: it says more and counts as full. Else prove '..UptoSaid'. A law counts once. -/
mutual
def uptoBulk {H : Type} : DataW H → Nat
  | .lit (.string bytes) => bytes.length + 1
  | .lit _ => 1
  | .nil => 1
  | .ptr d => uptoBulk d + 1
  | .slice elems spare => uptoBulkAll elems + uptoBulkAll spare + 1
  | .agg parts => uptoBulkAll parts + 1
  | .iface _ d => uptoBulk d + 1
  | .map entries => uptoBulkEntries entries + 1
  | .held _ => 1
def uptoBulkAll {H : Type} : List (DataW H) → Nat
  | [] => 0
  | d :: r => uptoBulk d + uptoBulkAll r
def uptoBulkEntries {H : Type} : List (Lit × DataW H) → Nat
  | [] => 0
  | x :: r => uptoBulkEntry x + uptoBulkEntries r
def uptoBulkEntry {H : Type} : Lit × DataW H → Nat
  | (.string bytes, d) => bytes.length + uptoBulk d + 1
  | (_, d) => uptoBulk d + 1
 end
def uptoSmall : (H : Type) → List (DataW H) → Bool := fun _ ds => decide (uptoBulkAll ds ≤ 1048576)
def OpenSpec.upto (s : _root_.Go.ChangeSpec) : _root_.Go.OpenSpec := { _root_.Go.OpenSpec.ofChange s with cond := some uptoSmall }

/-- 'laws.FnExactLeastCount', WHERE WHAT IT READS IS OF BULK AT MOST 1048576: true; the input reads as it did. -/
def fnExactLeastCountUptoRow : OpenClaim := { program := "ytbgjokadfkblmab", sum := "0f49b48dd67a11551b265687d61c1cbe3f200be12362fbcdaadf3c74f21902ac", func := "loop.example/g01254/laws.FnExactLeastCount", spec := "fnExactLeastCount", unfollowed := true, recurses := true, apart := false, narrowed := true }
def FnExactLeastCountUptoSaid : Prop := fnExactLeastCountUptoRow.holds Try.pinned (OpenSpec.upto fnExactLeastCountSpec)

/-- 'laws.FnExactWorstError', WHERE WHAT IT READS IS OF BULK AT MOST 1048576: true; the input reads as it did. -/
def fnExactWorstErrorUptoRow : OpenClaim := { program := "ytbgjokadfkblmab", sum := "0f49b48dd67a11551b265687d61c1cbe3f200be12362fbcdaadf3c74f21902ac", func := "loop.example/g01254/laws.FnExactWorstError", spec := "fnExactWorstError", unfollowed := true, recurses := true, apart := false, narrowed := true }
def FnExactWorstErrorUptoSaid : Prop := fnExactWorstErrorUptoRow.holds Try.pinned (OpenSpec.upto fnExactWorstErrorSpec)

/-- 'laws.FnExactTurnSpindle', WHERE WHAT IT READS IS OF BULK AT MOST 1048576: true; the input reads as it did. -/
def fnExactTurnSpindleUptoRow : OpenClaim := { program := "ytbgjokadfkblmab", sum := "0f49b48dd67a11551b265687d61c1cbe3f200be12362fbcdaadf3c74f21902ac", func := "loop.example/g01254/laws.FnExactTurnSpindle", spec := "fnExactTurnSpindle", unfollowed := true, recurses := true, apart := false, narrowed := true }
def FnExactTurnSpindleUptoSaid : Prop := fnExactTurnSpindleUptoRow.holds Try.pinned (OpenSpec.upto fnExactTurnSpindleSpec)

/-- 'laws.FnExactNearestMark', WHERE WHAT IT READS IS OF BULK AT MOST 1048576: true; the input reads as it did. -/
def fnExactNearestMarkUptoRow : OpenClaim := { program := "ytbgjokadfkblmab", sum := "0f49b48dd67a11551b265687d61c1cbe3f200be12362fbcdaadf3c74f21902ac", func := "loop.example/g01254/laws.FnExactNearestMark", spec := "fnExactNearestMark", unfollowed := true, recurses := true, apart := false, narrowed := true }
def FnExactNearestMarkUptoSaid : Prop := fnExactNearestMarkUptoRow.holds Try.pinned (OpenSpec.upto fnExactNearestMarkSpec)

/-- 'laws.FnExactLineAt', WHERE WHAT IT READS IS OF BULK AT MOST 1048576: true; the input reads as it did. -/
def fnExactLineAtUptoRow : OpenClaim := { program := "ytbgjokadfkblmab", sum := "0f49b48dd67a11551b265687d61c1cbe3f200be12362fbcdaadf3c74f21902ac", func := "loop.example/g01254/laws.FnExactLineAt", spec := "fnExactLineAt", unfollowed := true, recurses := true, apart := false, narrowed := true }
def FnExactLineAtUptoSaid : Prop := fnExactLineAtUptoRow.holds Try.pinned (OpenSpec.upto fnExactLineAtSpec)

/-- 'laws.FnExactWarmScale', WHERE WHAT IT READS IS OF BULK AT MOST 1048576: true; the input reads as it did. -/
def fnExactWarmScaleUptoRow : OpenClaim := { program := "ytbgjokadfkblmab", sum := "0f49b48dd67a11551b265687d61c1cbe3f200be12362fbcdaadf3c74f21902ac", func := "loop.example/g01254/laws.FnExactWarmScale", spec := "fnExactWarmScale", unfollowed := true, recurses := true, apart := false, narrowed := true }
def FnExactWarmScaleUptoSaid : Prop := fnExactWarmScaleUptoRow.holds Try.pinned (OpenSpec.upto fnExactWarmScaleSpec)

/-- 'laws.FnExactCorrectScale', WHERE WHAT IT READS IS OF BULK AT MOST 1048576: true; the input reads as it did. -/
def fnExactCorrectScaleUptoRow : OpenClaim := { program := "ytbgjokadfkblmab", sum := "0f49b48dd67a11551b265687d61c1cbe3f200be12362fbcdaadf3c74f21902ac", func := "loop.example/g01254/laws.FnExactCorrectScale", spec := "fnExactCorrectScale", unfollowed := true, recurses := true, apart := false, narrowed := true }
def FnExactCorrectScaleUptoSaid : Prop := fnExactCorrectScaleUptoRow.holds Try.pinned (OpenSpec.upto fnExactCorrectScaleSpec)

/-- 'laws.FnExactEvenScale', WHERE WHAT IT READS IS OF BULK AT MOST 1048576: true; the input reads as it did. -/
def fnExactEvenScaleUptoRow : OpenClaim := { program := "ytbgjokadfkblmab", sum := "0f49b48dd67a11551b265687d61c1cbe3f200be12362fbcdaadf3c74f21902ac", func := "loop.example/g01254/laws.FnExactEvenScale", spec := "fnExactEvenScale", unfollowed := true, recurses := true, apart := false, narrowed := true }
def FnExactEvenScaleUptoSaid : Prop := fnExactEvenScaleUptoRow.holds Try.pinned (OpenSpec.upto fnExactEvenScaleSpec)

/-- 'laws.FnExactPlayFound', WHERE WHAT IT READS IS OF BULK AT MOST 1048576: true; the input reads as it did. -/
def fnExactPlayFoundUptoRow : OpenClaim := { program := "ytbgjokadfkblmab", sum := "0f49b48dd67a11551b265687d61c1cbe3f200be12362fbcdaadf3c74f21902ac", func := "loop.example/g01254/laws.FnExactPlayFound", spec := "fnExactPlayFound", unfollowed := true, recurses := true, apart := false, narrowed := true }
def FnExactPlayFoundUptoSaid : Prop := fnExactPlayFoundUptoRow.holds Try.pinned (OpenSpec.upto fnExactPlayFoundSpec)

/-- 'laws.FnExactTurnTo', WHERE WHAT IT READS IS OF BULK AT MOST 1048576: true; the input reads as it did. -/
def fnExactTurnToUptoRow : OpenClaim := { program := "ytbgjokadfkblmab", sum := "0f49b48dd67a11551b265687d61c1cbe3f200be12362fbcdaadf3c74f21902ac", func := "loop.example/g01254/laws.FnExactTurnTo", spec := "fnExactTurnTo", unfollowed := true, recurses := true, apart := false, narrowed := true }
def FnExactTurnToUptoSaid : Prop := fnExactTurnToUptoRow.holds Try.pinned (OpenSpec.upto fnExactTurnToSpec)

/-- 'laws.FnExactMisfitOf', WHERE WHAT IT READS IS OF BULK AT MOST 1048576: true; the input reads as it did. -/
def fnExactMisfitOfUptoRow : OpenClaim := { program := "ytbgjokadfkblmab", sum := "0f49b48dd67a11551b265687d61c1cbe3f200be12362fbcdaadf3c74f21902ac", func := "loop.example/g01254/laws.FnExactMisfitOf", spec := "fnExactMisfitOf", unfollowed := true, recurses := true, apart := false, narrowed := true }
def FnExactMisfitOfUptoSaid : Prop := fnExactMisfitOfUptoRow.holds Try.pinned (OpenSpec.upto fnExactMisfitOfSpec)

/-- 'laws.FnExactReadingSpan', WHERE WHAT IT READS IS OF BULK AT MOST 1048576: true; the input reads as it did. -/
def fnExactReadingSpanUptoRow : OpenClaim := { program := "ytbgjokadfkblmab", sum := "0f49b48dd67a11551b265687d61c1cbe3f200be12362fbcdaadf3c74f21902ac", func := "loop.example/g01254/laws.FnExactReadingSpan", spec := "fnExactReadingSpan", unfollowed := true, recurses := true, apart := false, narrowed := true }
def FnExactReadingSpanUptoSaid : Prop := fnExactReadingSpanUptoRow.holds Try.pinned (OpenSpec.upto fnExactReadingSpanSpec)

/-- 'laws.FnExactLineThatFits', WHERE WHAT IT READS IS OF BULK AT MOST 1048576: true; the input reads as it did. -/
def fnExactLineThatFitsUptoRow : OpenClaim := { program := "ytbgjokadfkblmab", sum := "0f49b48dd67a11551b265687d61c1cbe3f200be12362fbcdaadf3c74f21902ac", func := "loop.example/g01254/laws.FnExactLineThatFits", spec := "fnExactLineThatFits", unfollowed := true, recurses := true, apart := false, narrowed := true }
def FnExactLineThatFitsUptoSaid : Prop := fnExactLineThatFitsUptoRow.holds Try.pinned (OpenSpec.upto fnExactLineThatFitsSpec)

/-- 'laws.FnExactMulSpans', WHERE WHAT IT READS IS OF BULK AT MOST 1048576: true; the input reads as it did. -/
def fnExactMulSpansUptoRow : OpenClaim := { program := "ytbgjokadfkblmab", sum := "0f49b48dd67a11551b265687d61c1cbe3f200be12362fbcdaadf3c74f21902ac", func := "loop.example/g01254/laws.FnExactMulSpans", spec := "fnExactMulSpans", unfollowed := true, recurses := true, apart := false, narrowed := true }
def FnExactMulSpansUptoSaid : Prop := fnExactMulSpansUptoRow.holds Try.pinned (OpenSpec.upto fnExactMulSpansSpec)

/-- 'laws.FnExactMiddleOf', WHERE WHAT IT READS IS OF BULK AT MOST 1048576: true; the input reads as it did. -/
def fnExactMiddleOfUptoRow : OpenClaim := { program := "ytbgjokadfkblmab", sum := "0f49b48dd67a11551b265687d61c1cbe3f200be12362fbcdaadf3c74f21902ac", func := "loop.example/g01254/laws.FnExactMiddleOf", spec := "fnExactMiddleOf", unfollowed := true, recurses := true, apart := false, narrowed := true }
def FnExactMiddleOfUptoSaid : Prop := fnExactMiddleOfUptoRow.holds Try.pinned (OpenSpec.upto fnExactMiddleOfSpec)

end Rows
end Go.Proofs.Ytbgjokadfkblmab
