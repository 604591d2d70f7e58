/-
  No cell of these rows narrows 'for every input' (looked for: loops, veiled, ifaces, maps, wideKeys, modest, calm, conditions, laid).
  DERIVED. THE GIVEN ROWS OF THIS SEAT. 12 by the template 'for every input the law returns true; each argument reads behind the call as it read before'; 0 by the template 'total and deterministic' (their statements: YtgabjddochcehabTotals.lean).
  GIVEN WITH THE SEED: the statements are not yours to turn. If you find one false, say at which input.
  Laid BY PROGRAM, IN A SANDBOX (cutbox-rows.mjs): the forced cells as the released guide's own fill.sh prints them over the translation f526aec36fb3d389… (all of the seat's roots in one cut). By AI agents, Wed Nov 11 2026. No macro, syntax, notation, axiom, sorry.
-/
import Derived.Test.YtgabjddochcehabChecked
import GoSem.Claim
import GoSem.ClaimJoined
import GoSem.ClaimMapViews
import Derived.JoinedTies
import Derived.KernelRfl
namespace Go.Proofs.Ytgabjddochcehab
/- THE CELL 'sum', in the pinned program and in every row, IS THE sha256 OF THE DUMP (.gsa) THAT YtgabjddochcehabProg.lean LOADS. Nothing in Lean hashes anything: it is a label: what it is worth is what the hold of that sum in a sandbox is worth. -/
noncomputable def Try.pinned : Pinned := { name := "ytgabjddochcehab", sum := "f526aec36fb3d389d162d578e1d06c93d43bfd9580b075b906b8c23f4d66530d", checked := Try.checked }
namespace Rows
def none {H : Type} : Left H := { results := [], args := [] }

/-- 'laws.FnExactDivFracs': WHATEVER THE INPUT: true; the input reads as it did. -/
def fnExactDivFracsSpec : ChangeSpec := { name := "fnExactDivFracs", fn := fun _ => fun
  | [d1, d2] => { results := [.lit (.bool true)], args := [d1, d2] }
  | _ => none }
def fnExactDivFracsRow : OpenClaim := { program := "ytgabjddochcehab", sum := "f526aec36fb3d389d162d578e1d06c93d43bfd9580b075b906b8c23f4d66530d", func := "loop.example/g01254/laws.FnExactDivFracs", spec := "fnExactDivFracs", unfollowed := true, recurses := true, apart := false }
def FnExactDivFracsSaid : Prop := fnExactDivFracsRow.holds Try.pinned (OpenSpec.ofChange fnExactDivFracsSpec)

/-- ITS FALSE NEIGHBOUR: 'it returns false'. Refute it at one input. -/
def fnExactDivFracsWrong : ChangeSpec := { name := "fnExactDivFracs", fn := fun _ => fun
  | [d1, d2] => { results := [.lit (.bool false)], args := [d1, d2] }
  | _ => none }
def FnExactDivFracsWrongFalsely : Prop := fnExactDivFracsRow.holds Try.pinned (OpenSpec.ofChange fnExactDivFracsWrong)

/-- 'laws.FnExactWidthOf': WHATEVER THE INPUT: true; the input reads as it did. -/
def fnExactWidthOfSpec : ChangeSpec := { name := "fnExactWidthOf", fn := fun _ => fun
  | [d] => { results := [.lit (.bool true)], args := [d] }
  | _ => none }
def fnExactWidthOfRow : OpenClaim := { program := "ytgabjddochcehab", sum := "f526aec36fb3d389d162d578e1d06c93d43bfd9580b075b906b8c23f4d66530d", func := "loop.example/g01254/laws.FnExactWidthOf", spec := "fnExactWidthOf", unfollowed := true, recurses := true, apart := false }
def FnExactWidthOfSaid : Prop := fnExactWidthOfRow.holds Try.pinned (OpenSpec.ofChange fnExactWidthOfSpec)

/-- ITS FALSE NEIGHBOUR: 'it returns false'. Refute it at one input. -/
def fnExactWidthOfWrong : ChangeSpec := { name := "fnExactWidthOf", fn := fun _ => fun
  | [d] => { results := [.lit (.bool false)], args := [d] }
  | _ => none }
def FnExactWidthOfWrongFalsely : Prop := fnExactWidthOfRow.holds Try.pinned (OpenSpec.ofChange fnExactWidthOfWrong)

/-- 'laws.FnExactSpanAround': WHATEVER THE INPUT: true; the input reads as it did. -/
def fnExactSpanAroundSpec : ChangeSpec := { name := "fnExactSpanAround", fn := fun _ => fun
  | [d1, d2] => { results := [.lit (.bool true)], args := [d1, d2] }
  | _ => none }
def fnExactSpanAroundRow : OpenClaim := { program := "ytgabjddochcehab", sum := "f526aec36fb3d389d162d578e1d06c93d43bfd9580b075b906b8c23f4d66530d", func := "loop.example/g01254/laws.FnExactSpanAround", spec := "fnExactSpanAround", unfollowed := true, recurses := true, apart := false }
def FnExactSpanAroundSaid : Prop := fnExactSpanAroundRow.holds Try.pinned (OpenSpec.ofChange fnExactSpanAroundSpec)

/-- ITS FALSE NEIGHBOUR: 'it returns false'. Refute it at one input. -/
def fnExactSpanAroundWrong : ChangeSpec := { name := "fnExactSpanAround", fn := fun _ => fun
  | [d1, d2] => { results := [.lit (.bool false)], args := [d1, d2] }
  | _ => none }
def FnExactSpanAroundWrongFalsely : Prop := fnExactSpanAroundRow.holds Try.pinned (OpenSpec.ofChange fnExactSpanAroundWrong)

/-- 'laws.FnExactMeetSpans': WHATEVER THE INPUT: true; the input reads as it did. -/
def fnExactMeetSpansSpec : ChangeSpec := { name := "fnExactMeetSpans", fn := fun _ => fun
  | [d1, d2] => { results := [.lit (.bool true)], args := [d1, d2] }
  | _ => none }
def fnExactMeetSpansRow : OpenClaim := { program := "ytgabjddochcehab", sum := "f526aec36fb3d389d162d578e1d06c93d43bfd9580b075b906b8c23f4d66530d", func := "loop.example/g01254/laws.FnExactMeetSpans", spec := "fnExactMeetSpans", unfollowed := true, recurses := true, apart := false }
def FnExactMeetSpansSaid : Prop := fnExactMeetSpansRow.holds Try.pinned (OpenSpec.ofChange fnExactMeetSpansSpec)

/-- ITS FALSE NEIGHBOUR: 'it returns false'. Refute it at one input. -/
def fnExactMeetSpansWrong : ChangeSpec := { name := "fnExactMeetSpans", fn := fun _ => fun
  | [d1, d2] => { results := [.lit (.bool false)], args := [d1, d2] }
  | _ => none }
def FnExactMeetSpansWrongFalsely : Prop := fnExactMeetSpansRow.holds Try.pinned (OpenSpec.ofChange fnExactMeetSpansWrong)

/-- 'laws.FnExactSumOf': WHATEVER THE INPUT: true; the input reads as it did. -/
def fnExactSumOfSpec : ChangeSpec := { name := "fnExactSumOf", fn := fun _ => fun
  | [d] => { results := [.lit (.bool true)], args := [d] }
  | _ => none }
def fnExactSumOfRow : OpenClaim := { program := "ytgabjddochcehab", sum := "f526aec36fb3d389d162d578e1d06c93d43bfd9580b075b906b8c23f4d66530d", func := "loop.example/g01254/laws.FnExactSumOf", spec := "fnExactSumOf", unfollowed := true, recurses := true, apart := false }
def FnExactSumOfSaid : Prop := fnExactSumOfRow.holds Try.pinned (OpenSpec.ofChange fnExactSumOfSpec)

/-- ITS FALSE NEIGHBOUR: 'it returns false'. Refute it at one input. -/
def fnExactSumOfWrong : ChangeSpec := { name := "fnExactSumOf", fn := fun _ => fun
  | [d] => { results := [.lit (.bool false)], args := [d] }
  | _ => none }
def FnExactSumOfWrongFalsely : Prop := fnExactSumOfRow.holds Try.pinned (OpenSpec.ofChange fnExactSumOfWrong)

/-- 'laws.FnExactAddSpans': WHATEVER THE INPUT: true; the input reads as it did. -/
def fnExactAddSpansSpec : ChangeSpec := { name := "fnExactAddSpans", fn := fun _ => fun
  | [d1, d2] => { results := [.lit (.bool true)], args := [d1, d2] }
  | _ => none }
def fnExactAddSpansRow : OpenClaim := { program := "ytgabjddochcehab", sum := "f526aec36fb3d389d162d578e1d06c93d43bfd9580b075b906b8c23f4d66530d", func := "loop.example/g01254/laws.FnExactAddSpans", spec := "fnExactAddSpans", unfollowed := true, recurses := true, apart := false }
def FnExactAddSpansSaid : Prop := fnExactAddSpansRow.holds Try.pinned (OpenSpec.ofChange fnExactAddSpansSpec)

/-- ITS FALSE NEIGHBOUR: 'it returns false'. Refute it at one input. -/
def fnExactAddSpansWrong : ChangeSpec := { name := "fnExactAddSpans", fn := fun _ => fun
  | [d1, d2] => { results := [.lit (.bool false)], args := [d1, d2] }
  | _ => none }
def FnExactAddSpansWrongFalsely : Prop := fnExactAddSpansRow.holds Try.pinned (OpenSpec.ofChange fnExactAddSpansWrong)

/-- 'laws.FnExactHullOf': WHATEVER THE INPUT: true; the input reads as it did. -/
def fnExactHullOfSpec : ChangeSpec := { name := "fnExactHullOf", fn := fun _ => fun
  | [d] => { results := [.lit (.bool true)], args := [d] }
  | _ => none }
def fnExactHullOfRow : OpenClaim := { program := "ytgabjddochcehab", sum := "f526aec36fb3d389d162d578e1d06c93d43bfd9580b075b906b8c23f4d66530d", func := "loop.example/g01254/laws.FnExactHullOf", spec := "fnExactHullOf", unfollowed := true, recurses := true, apart := false }
def FnExactHullOfSaid : Prop := fnExactHullOfRow.holds Try.pinned (OpenSpec.ofChange fnExactHullOfSpec)

/-- ITS FALSE NEIGHBOUR: 'it returns false'. Refute it at one input. -/
def fnExactHullOfWrong : ChangeSpec := { name := "fnExactHullOf", fn := fun _ => fun
  | [d] => { results := [.lit (.bool false)], args := [d] }
  | _ => none }
def FnExactHullOfWrongFalsely : Prop := fnExactHullOfRow.holds Try.pinned (OpenSpec.ofChange fnExactHullOfWrong)

/-- 'laws.FnExactSubSpans': WHATEVER THE INPUT: true; the input reads as it did. -/
def fnExactSubSpansSpec : ChangeSpec := { name := "fnExactSubSpans", fn := fun _ => fun
  | [d1, d2] => { results := [.lit (.bool true)], args := [d1, d2] }
  | _ => none }
def fnExactSubSpansRow : OpenClaim := { program := "ytgabjddochcehab", sum := "f526aec36fb3d389d162d578e1d06c93d43bfd9580b075b906b8c23f4d66530d", func := "loop.example/g01254/laws.FnExactSubSpans", spec := "fnExactSubSpans", unfollowed := true, recurses := true, apart := false }
def FnExactSubSpansSaid : Prop := fnExactSubSpansRow.holds Try.pinned (OpenSpec.ofChange fnExactSubSpansSpec)

/-- ITS FALSE NEIGHBOUR: 'it returns false'. Refute it at one input. -/
def fnExactSubSpansWrong : ChangeSpec := { name := "fnExactSubSpans", fn := fun _ => fun
  | [d1, d2] => { results := [.lit (.bool false)], args := [d1, d2] }
  | _ => none }
def FnExactSubSpansWrongFalsely : Prop := fnExactSubSpansRow.holds Try.pinned (OpenSpec.ofChange fnExactSubSpansWrong)

/-- 'laws.FnExactValidSpindle': WHATEVER THE INPUT: true; the input reads as it did. -/
def fnExactValidSpindleSpec : ChangeSpec := { name := "fnExactValidSpindle", fn := fun _ => fun
  | [d1, d2] => { results := [.lit (.bool true)], args := [d1, d2] }
  | _ => none }
def fnExactValidSpindleRow : OpenClaim := { program := "ytgabjddochcehab", sum := "f526aec36fb3d389d162d578e1d06c93d43bfd9580b075b906b8c23f4d66530d", func := "loop.example/g01254/laws.FnExactValidSpindle", spec := "fnExactValidSpindle", unfollowed := true, recurses := true, apart := false }
def FnExactValidSpindleSaid : Prop := fnExactValidSpindleRow.holds Try.pinned (OpenSpec.ofChange fnExactValidSpindleSpec)

/-- ITS FALSE NEIGHBOUR: 'it returns false'. Refute it at one input. -/
def fnExactValidSpindleWrong : ChangeSpec := { name := "fnExactValidSpindle", fn := fun _ => fun
  | [d1, d2] => { results := [.lit (.bool false)], args := [d1, d2] }
  | _ => none }
def FnExactValidSpindleWrongFalsely : Prop := fnExactValidSpindleRow.holds Try.pinned (OpenSpec.ofChange fnExactValidSpindleWrong)

/-- 'laws.FnExactMeanOf': WHATEVER THE INPUT: true; the input reads as it did. -/
def fnExactMeanOfSpec : ChangeSpec := { name := "fnExactMeanOf", fn := fun _ => fun
  | [d] => { results := [.lit (.bool true)], args := [d] }
  | _ => none }
def fnExactMeanOfRow : OpenClaim := { program := "ytgabjddochcehab", sum := "f526aec36fb3d389d162d578e1d06c93d43bfd9580b075b906b8c23f4d66530d", func := "loop.example/g01254/laws.FnExactMeanOf", spec := "fnExactMeanOf", unfollowed := true, recurses := true, apart := false }
def FnExactMeanOfSaid : Prop := fnExactMeanOfRow.holds Try.pinned (OpenSpec.ofChange fnExactMeanOfSpec)

/-- ITS FALSE NEIGHBOUR: 'it returns false'. Refute it at one input. -/
def fnExactMeanOfWrong : ChangeSpec := { name := "fnExactMeanOf", fn := fun _ => fun
  | [d] => { results := [.lit (.bool false)], args := [d] }
  | _ => none }
def FnExactMeanOfWrongFalsely : Prop := fnExactMeanOfRow.holds Try.pinned (OpenSpec.ofChange fnExactMeanOfWrong)

/-- 'laws.FnExactValidScale': WHATEVER THE INPUT: true; the input reads as it did. -/
def fnExactValidScaleSpec : ChangeSpec := { name := "fnExactValidScale", fn := fun _ => fun
  | [d] => { results := [.lit (.bool true)], args := [d] }
  | _ => none }
def fnExactValidScaleRow : OpenClaim := { program := "ytgabjddochcehab", sum := "f526aec36fb3d389d162d578e1d06c93d43bfd9580b075b906b8c23f4d66530d", func := "loop.example/g01254/laws.FnExactValidScale", spec := "fnExactValidScale", unfollowed := true, recurses := true, apart := false }
def FnExactValidScaleSaid : Prop := fnExactValidScaleRow.holds Try.pinned (OpenSpec.ofChange fnExactValidScaleSpec)

/-- ITS FALSE NEIGHBOUR: 'it returns false'. Refute it at one input. -/
def fnExactValidScaleWrong : ChangeSpec := { name := "fnExactValidScale", fn := fun _ => fun
  | [d] => { results := [.lit (.bool false)], args := [d] }
  | _ => none }
def FnExactValidScaleWrongFalsely : Prop := fnExactValidScaleRow.holds Try.pinned (OpenSpec.ofChange fnExactValidScaleWrong)

/-- 'laws.FnExactReadSpindle': WHATEVER THE INPUT: true; the input reads as it did. -/
def fnExactReadSpindleSpec : ChangeSpec := { name := "fnExactReadSpindle", fn := fun _ => fun
  | [d1, d2] => { results := [.lit (.bool true)], args := [d1, d2] }
  | _ => none }
def fnExactReadSpindleRow : OpenClaim := { program := "ytgabjddochcehab", sum := "f526aec36fb3d389d162d578e1d06c93d43bfd9580b075b906b8c23f4d66530d", func := "loop.example/g01254/laws.FnExactReadSpindle", spec := "fnExactReadSpindle", unfollowed := true, recurses := true, apart := false }
def FnExactReadSpindleSaid : Prop := fnExactReadSpindleRow.holds Try.pinned (OpenSpec.ofChange fnExactReadSpindleSpec)

/-- ITS FALSE NEIGHBOUR: 'it returns false'. Refute it at one input. -/
def fnExactReadSpindleWrong : ChangeSpec := { name := "fnExactReadSpindle", fn := fun _ => fun
  | [d1, d2] => { results := [.lit (.bool false)], args := [d1, d2] }
  | _ => none }
def FnExactReadSpindleWrongFalsely : Prop := fnExactReadSpindleRow.holds Try.pinned (OpenSpec.ofChange fnExactReadSpindleWrong)

/- THE SECOND FORM. 'bulk': how many values and letters a reading holds, each counted each time it is reached (what is shared counts as often as it is met; a slice's spare places count too). A statement '..UptoSaid' is the law's where the arguments, and the package variables that the reading takes, are together of bulk at most 1048576: NARROWER than '..Said'. Prove '..Said' where nothing that the law and all that it calls make is longer than what came in: it says more and counts as full. Else prove '..UptoSaid'. A law counts once. -/
mutual
def uptoBulk {H : Type} : DataW H → Nat
  | .lit (.string bytes) => bytes.length + 1
  | .lit _ => 1
  | .nil => 1
  | .ptr d => uptoBulk d + 1
  | .slice elems spare => uptoBulkAll elems + uptoBulkAll spare + 1
  | .agg parts => uptoBulkAll parts + 1
  | .iface _ d => uptoBulk d + 1
  | .map entries => uptoBulkEntries entries + 1
  | .held _ => 1
def uptoBulkAll {H : Type} : List (DataW H) → Nat
  | [] => 0
  | d :: r => uptoBulk d + uptoBulkAll r
def uptoBulkEntries {H : Type} : List (Lit × DataW H) → Nat
  | [] => 0
  | x :: r => uptoBulkEntry x + uptoBulkEntries r
def uptoBulkEntry {H : Type} : Lit × DataW H → Nat
  | (.string bytes, d) => bytes.length + uptoBulk d + 1
  | (_, d) => uptoBulk d + 1
 end
def uptoSmall : (H : Type) → List (DataW H) → Bool := fun _ ds => decide (uptoBulkAll ds ≤ 1048576)
def OpenSpec.upto (s : _root_.Go.ChangeSpec) : _root_.Go.OpenSpec := { _root_.Go.OpenSpec.ofChange s with cond := some uptoSmall }

/-- 'laws.FnExactDivFracs', WHERE WHAT IT READS IS OF BULK AT MOST 1048576: true; the input reads as it did. -/
def fnExactDivFracsUptoRow : OpenClaim := { program := "ytgabjddochcehab", sum := "f526aec36fb3d389d162d578e1d06c93d43bfd9580b075b906b8c23f4d66530d", func := "loop.example/g01254/laws.FnExactDivFracs", spec := "fnExactDivFracs", unfollowed := true, recurses := true, apart := false, narrowed := true }
def FnExactDivFracsUptoSaid : Prop := fnExactDivFracsUptoRow.holds Try.pinned (OpenSpec.upto fnExactDivFracsSpec)

/-- 'laws.FnExactWidthOf', WHERE WHAT IT READS IS OF BULK AT MOST 1048576: true; the input reads as it did. -/
def fnExactWidthOfUptoRow : OpenClaim := { program := "ytgabjddochcehab", sum := "f526aec36fb3d389d162d578e1d06c93d43bfd9580b075b906b8c23f4d66530d", func := "loop.example/g01254/laws.FnExactWidthOf", spec := "fnExactWidthOf", unfollowed := true, recurses := true, apart := false, narrowed := true }
def FnExactWidthOfUptoSaid : Prop := fnExactWidthOfUptoRow.holds Try.pinned (OpenSpec.upto fnExactWidthOfSpec)

/-- 'laws.FnExactSpanAround', WHERE WHAT IT READS IS OF BULK AT MOST 1048576: true; the input reads as it did. -/
def fnExactSpanAroundUptoRow : OpenClaim := { program := "ytgabjddochcehab", sum := "f526aec36fb3d389d162d578e1d06c93d43bfd9580b075b906b8c23f4d66530d", func := "loop.example/g01254/laws.FnExactSpanAround", spec := "fnExactSpanAround", unfollowed := true, recurses := true, apart := false, narrowed := true }
def FnExactSpanAroundUptoSaid : Prop := fnExactSpanAroundUptoRow.holds Try.pinned (OpenSpec.upto fnExactSpanAroundSpec)

/-- 'laws.FnExactMeetSpans', WHERE WHAT IT READS IS OF BULK AT MOST 1048576: true; the input reads as it did. -/
def fnExactMeetSpansUptoRow : OpenClaim := { program := "ytgabjddochcehab", sum := "f526aec36fb3d389d162d578e1d06c93d43bfd9580b075b906b8c23f4d66530d", func := "loop.example/g01254/laws.FnExactMeetSpans", spec := "fnExactMeetSpans", unfollowed := true, recurses := true, apart := false, narrowed := true }
def FnExactMeetSpansUptoSaid : Prop := fnExactMeetSpansUptoRow.holds Try.pinned (OpenSpec.upto fnExactMeetSpansSpec)

/-- 'laws.FnExactSumOf', WHERE WHAT IT READS IS OF BULK AT MOST 1048576: true; the input reads as it did. -/
def fnExactSumOfUptoRow : OpenClaim := { program := "ytgabjddochcehab", sum := "f526aec36fb3d389d162d578e1d06c93d43bfd9580b075b906b8c23f4d66530d", func := "loop.example/g01254/laws.FnExactSumOf", spec := "fnExactSumOf", unfollowed := true, recurses := true, apart := false, narrowed := true }
def FnExactSumOfUptoSaid : Prop := fnExactSumOfUptoRow.holds Try.pinned (OpenSpec.upto fnExactSumOfSpec)

/-- 'laws.FnExactAddSpans', WHERE WHAT IT READS IS OF BULK AT MOST 1048576: true; the input reads as it did. -/
def fnExactAddSpansUptoRow : OpenClaim := { program := "ytgabjddochcehab", sum := "f526aec36fb3d389d162d578e1d06c93d43bfd9580b075b906b8c23f4d66530d", func := "loop.example/g01254/laws.FnExactAddSpans", spec := "fnExactAddSpans", unfollowed := true, recurses := true, apart := false, narrowed := true }
def FnExactAddSpansUptoSaid : Prop := fnExactAddSpansUptoRow.holds Try.pinned (OpenSpec.upto fnExactAddSpansSpec)

/-- 'laws.FnExactHullOf', WHERE WHAT IT READS IS OF BULK AT MOST 1048576: true; the input reads as it did. -/
def fnExactHullOfUptoRow : OpenClaim := { program := "ytgabjddochcehab", sum := "f526aec36fb3d389d162d578e1d06c93d43bfd9580b075b906b8c23f4d66530d", func := "loop.example/g01254/laws.FnExactHullOf", spec := "fnExactHullOf", unfollowed := true, recurses := true, apart := false, narrowed := true }
def FnExactHullOfUptoSaid : Prop := fnExactHullOfUptoRow.holds Try.pinned (OpenSpec.upto fnExactHullOfSpec)

/-- 'laws.FnExactSubSpans', WHERE WHAT IT READS IS OF BULK AT MOST 1048576: true; the input reads as it did. -/
def fnExactSubSpansUptoRow : OpenClaim := { program := "ytgabjddochcehab", sum := "f526aec36fb3d389d162d578e1d06c93d43bfd9580b075b906b8c23f4d66530d", func := "loop.example/g01254/laws.FnExactSubSpans", spec := "fnExactSubSpans", unfollowed := true, recurses := true, apart := false, narrowed := true }
def FnExactSubSpansUptoSaid : Prop := fnExactSubSpansUptoRow.holds Try.pinned (OpenSpec.upto fnExactSubSpansSpec)

/-- 'laws.FnExactValidSpindle', WHERE WHAT IT READS IS OF BULK AT MOST 1048576: true; the input reads as it did. -/
def fnExactValidSpindleUptoRow : OpenClaim := { program := "ytgabjddochcehab", sum := "f526aec36fb3d389d162d578e1d06c93d43bfd9580b075b906b8c23f4d66530d", func := "loop.example/g01254/laws.FnExactValidSpindle", spec := "fnExactValidSpindle", unfollowed := true, recurses := true, apart := false, narrowed := true }
def FnExactValidSpindleUptoSaid : Prop := fnExactValidSpindleUptoRow.holds Try.pinned (OpenSpec.upto fnExactValidSpindleSpec)

/-- 'laws.FnExactMeanOf', WHERE WHAT IT READS IS OF BULK AT MOST 1048576: true; the input reads as it did. -/
def fnExactMeanOfUptoRow : OpenClaim := { program := "ytgabjddochcehab", sum := "f526aec36fb3d389d162d578e1d06c93d43bfd9580b075b906b8c23f4d66530d", func := "loop.example/g01254/laws.FnExactMeanOf", spec := "fnExactMeanOf", unfollowed := true, recurses := true, apart := false, narrowed := true }
def FnExactMeanOfUptoSaid : Prop := fnExactMeanOfUptoRow.holds Try.pinned (OpenSpec.upto fnExactMeanOfSpec)

/-- 'laws.FnExactValidScale', WHERE WHAT IT READS IS OF BULK AT MOST 1048576: true; the input reads as it did. -/
def fnExactValidScaleUptoRow : OpenClaim := { program := "ytgabjddochcehab", sum := "f526aec36fb3d389d162d578e1d06c93d43bfd9580b075b906b8c23f4d66530d", func := "loop.example/g01254/laws.FnExactValidScale", spec := "fnExactValidScale", unfollowed := true, recurses := true, apart := false, narrowed := true }
def FnExactValidScaleUptoSaid : Prop := fnExactValidScaleUptoRow.holds Try.pinned (OpenSpec.upto fnExactValidScaleSpec)

/-- 'laws.FnExactReadSpindle', WHERE WHAT IT READS IS OF BULK AT MOST 1048576: true; the input reads as it did. -/
def fnExactReadSpindleUptoRow : OpenClaim := { program := "ytgabjddochcehab", sum := "f526aec36fb3d389d162d578e1d06c93d43bfd9580b075b906b8c23f4d66530d", func := "loop.example/g01254/laws.FnExactReadSpindle", spec := "fnExactReadSpindle", unfollowed := true, recurses := true, apart := false, narrowed := true }
def FnExactReadSpindleUptoSaid : Prop := fnExactReadSpindleUptoRow.holds Try.pinned (OpenSpec.upto fnExactReadSpindleSpec)

end Rows
end Go.Proofs.Ytgabjddochcehab
