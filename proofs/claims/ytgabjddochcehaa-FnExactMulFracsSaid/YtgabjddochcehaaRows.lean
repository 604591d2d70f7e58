/-
  No cell of these rows narrows 'for every input' (looked for: loops, veiled, ifaces, maps, wideKeys, modest, calm, conditions, laid).
  DERIVED. THE GIVEN ROWS OF THIS SEAT. 11 by the template 'for every input the law returns true; each argument reads behind the call as it read before'; 0 by the template 'total and deterministic' (their statements: YtgabjddochcehaaTotals.lean).
  GIVEN WITH THE SEED: the statements are not yours to turn. If you find one false, say at which input.
  Laid BY PROGRAM, IN A SANDBOX (cutbox-rows.mjs): the forced cells as the released guide's own fill.sh prints them over the translation e97ca742bf3c5f0d… (all of the seat's roots in one cut). By AI agents, Wed Nov 11 2026. No macro, syntax, notation, axiom, sorry.
-/
import Derived.Test.YtgabjddochcehaaChecked
import GoSem.Claim
import GoSem.ClaimJoined
import GoSem.ClaimMapViews
import Derived.JoinedTies
import Derived.KernelRfl
namespace Go.Proofs.Ytgabjddochcehaa
/- THE CELL 'sum', in the pinned program and in every row, IS THE sha256 OF THE DUMP (.gsa) THAT YtgabjddochcehaaProg.lean LOADS. Nothing in Lean hashes anything: it is a label: what it is worth is what the hold of that sum in a sandbox is worth. -/
noncomputable def Try.pinned : Pinned := { name := "ytgabjddochcehaa", sum := "e97ca742bf3c5f0defc6f7a927d08c6776615f13831e7fb6015b54677bba5cf6", checked := Try.checked }
namespace Rows
def none {H : Type} : Left H := { results := [], args := [] }

/-- 'laws.FnExactValidDisk': WHATEVER THE INPUT: true; the input reads as it did. -/
def fnExactValidDiskSpec : ChangeSpec := { name := "fnExactValidDisk", fn := fun _ => fun
  | [d] => { results := [.lit (.bool true)], args := [d] }
  | _ => none }
def fnExactValidDiskRow : OpenClaim := { program := "ytgabjddochcehaa", sum := "e97ca742bf3c5f0defc6f7a927d08c6776615f13831e7fb6015b54677bba5cf6", func := "loop.example/g01254/laws.FnExactValidDisk", spec := "fnExactValidDisk", unfollowed := true, recurses := true, apart := false }
def FnExactValidDiskSaid : Prop := fnExactValidDiskRow.holds Try.pinned (OpenSpec.ofChange fnExactValidDiskSpec)

/-- ITS FALSE NEIGHBOUR: 'it returns false'. Refute it at one input. -/
def fnExactValidDiskWrong : ChangeSpec := { name := "fnExactValidDisk", fn := fun _ => fun
  | [d] => { results := [.lit (.bool false)], args := [d] }
  | _ => none }
def FnExactValidDiskWrongFalsely : Prop := fnExactValidDiskRow.holds Try.pinned (OpenSpec.ofChange fnExactValidDiskWrong)

/-- 'laws.FnEveryClosing': WHATEVER THE INPUT: true; the input reads as it did. -/
def fnEveryClosingSpec : ChangeSpec := { name := "fnEveryClosing", fn := fun _ => fun
  | [d] => { results := [.lit (.bool true)], args := [d] }
  | _ => none }
def fnEveryClosingRow : OpenClaim := { program := "ytgabjddochcehaa", sum := "e97ca742bf3c5f0defc6f7a927d08c6776615f13831e7fb6015b54677bba5cf6", func := "loop.example/g01254/laws.FnEveryClosing", spec := "fnEveryClosing", unfollowed := true, recurses := true, apart := false }
def FnEveryClosingSaid : Prop := fnEveryClosingRow.holds Try.pinned (OpenSpec.ofChange fnEveryClosingSpec)

/-- ITS FALSE NEIGHBOUR: 'it returns false'. Refute it at one input. -/
def fnEveryClosingWrong : ChangeSpec := { name := "fnEveryClosing", fn := fun _ => fun
  | [d] => { results := [.lit (.bool false)], args := [d] }
  | _ => none }
def FnEveryClosingWrongFalsely : Prop := fnEveryClosingRow.holds Try.pinned (OpenSpec.ofChange fnEveryClosingWrong)

/-- 'laws.FnExactSameScale': WHATEVER THE INPUT: true; the input reads as it did. -/
def fnExactSameScaleSpec : ChangeSpec := { name := "fnExactSameScale", fn := fun _ => fun
  | [d1, d2] => { results := [.lit (.bool true)], args := [d1, d2] }
  | _ => none }
def fnExactSameScaleRow : OpenClaim := { program := "ytgabjddochcehaa", sum := "e97ca742bf3c5f0defc6f7a927d08c6776615f13831e7fb6015b54677bba5cf6", func := "loop.example/g01254/laws.FnExactSameScale", spec := "fnExactSameScale", apart := false }
def FnExactSameScaleSaid : Prop := fnExactSameScaleRow.holds Try.pinned (OpenSpec.ofChange fnExactSameScaleSpec)

/-- ITS FALSE NEIGHBOUR: 'it returns false'. Refute it at one input. -/
def fnExactSameScaleWrong : ChangeSpec := { name := "fnExactSameScale", fn := fun _ => fun
  | [d1, d2] => { results := [.lit (.bool false)], args := [d1, d2] }
  | _ => none }
def FnExactSameScaleWrongFalsely : Prop := fnExactSameScaleRow.holds Try.pinned (OpenSpec.ofChange fnExactSameScaleWrong)

/-- 'laws.FnExactCompareFracs': WHATEVER THE INPUT: true; the input reads as it did. -/
def fnExactCompareFracsSpec : ChangeSpec := { name := "fnExactCompareFracs", fn := fun _ => fun
  | [d1, d2] => { results := [.lit (.bool true)], args := [d1, d2] }
  | _ => none }
def fnExactCompareFracsRow : OpenClaim := { program := "ytgabjddochcehaa", sum := "e97ca742bf3c5f0defc6f7a927d08c6776615f13831e7fb6015b54677bba5cf6", func := "loop.example/g01254/laws.FnExactCompareFracs", spec := "fnExactCompareFracs", unfollowed := true, recurses := true, apart := false }
def FnExactCompareFracsSaid : Prop := fnExactCompareFracsRow.holds Try.pinned (OpenSpec.ofChange fnExactCompareFracsSpec)

/-- ITS FALSE NEIGHBOUR: 'it returns false'. Refute it at one input. -/
def fnExactCompareFracsWrong : ChangeSpec := { name := "fnExactCompareFracs", fn := fun _ => fun
  | [d1, d2] => { results := [.lit (.bool false)], args := [d1, d2] }
  | _ => none }
def FnExactCompareFracsWrongFalsely : Prop := fnExactCompareFracsRow.holds Try.pinned (OpenSpec.ofChange fnExactCompareFracsWrong)

/-- 'laws.FnExactValidScrew': WHATEVER THE INPUT: true; the input reads as it did. -/
def fnExactValidScrewSpec : ChangeSpec := { name := "fnExactValidScrew", fn := fun _ => fun
  | [d] => { results := [.lit (.bool true)], args := [d] }
  | _ => none }
def fnExactValidScrewRow : OpenClaim := { program := "ytgabjddochcehaa", sum := "e97ca742bf3c5f0defc6f7a927d08c6776615f13831e7fb6015b54677bba5cf6", func := "loop.example/g01254/laws.FnExactValidScrew", spec := "fnExactValidScrew", unfollowed := true, recurses := true, apart := false }
def FnExactValidScrewSaid : Prop := fnExactValidScrewRow.holds Try.pinned (OpenSpec.ofChange fnExactValidScrewSpec)

/-- ITS FALSE NEIGHBOUR: 'it returns false'. Refute it at one input. -/
def fnExactValidScrewWrong : ChangeSpec := { name := "fnExactValidScrew", fn := fun _ => fun
  | [d] => { results := [.lit (.bool false)], args := [d] }
  | _ => none }
def FnExactValidScrewWrongFalsely : Prop := fnExactValidScrewRow.holds Try.pinned (OpenSpec.ofChange fnExactValidScrewWrong)

/-- 'laws.FnExactInSpan': WHATEVER THE INPUT: true; the input reads as it did. -/
def fnExactInSpanSpec : ChangeSpec := { name := "fnExactInSpan", fn := fun _ => fun
  | [d1, d2] => { results := [.lit (.bool true)], args := [d1, d2] }
  | _ => none }
def fnExactInSpanRow : OpenClaim := { program := "ytgabjddochcehaa", sum := "e97ca742bf3c5f0defc6f7a927d08c6776615f13831e7fb6015b54677bba5cf6", func := "loop.example/g01254/laws.FnExactInSpan", spec := "fnExactInSpan", unfollowed := true, recurses := true, apart := false }
def FnExactInSpanSaid : Prop := fnExactInSpanRow.holds Try.pinned (OpenSpec.ofChange fnExactInSpanSpec)

/-- ITS FALSE NEIGHBOUR: 'it returns false'. Refute it at one input. -/
def fnExactInSpanWrong : ChangeSpec := { name := "fnExactInSpan", fn := fun _ => fun
  | [d1, d2] => { results := [.lit (.bool false)], args := [d1, d2] }
  | _ => none }
def FnExactInSpanWrongFalsely : Prop := fnExactInSpanRow.holds Try.pinned (OpenSpec.ofChange fnExactInSpanWrong)

/-- 'laws.FnExactMakeFrac': WHATEVER THE INPUT: true; the input reads as it did. -/
def fnExactMakeFracSpec : ChangeSpec := { name := "fnExactMakeFrac", fn := fun _ => fun
  | [d1, d2] => { results := [.lit (.bool true)], args := [d1, d2] }
  | _ => none }
def fnExactMakeFracRow : OpenClaim := { program := "ytgabjddochcehaa", sum := "e97ca742bf3c5f0defc6f7a927d08c6776615f13831e7fb6015b54677bba5cf6", func := "loop.example/g01254/laws.FnExactMakeFrac", spec := "fnExactMakeFrac", apart := false }
def FnExactMakeFracSaid : Prop := fnExactMakeFracRow.holds Try.pinned (OpenSpec.ofChange fnExactMakeFracSpec)

/-- ITS FALSE NEIGHBOUR: 'it returns false'. Refute it at one input. -/
def fnExactMakeFracWrong : ChangeSpec := { name := "fnExactMakeFrac", fn := fun _ => fun
  | [d1, d2] => { results := [.lit (.bool false)], args := [d1, d2] }
  | _ => none }
def FnExactMakeFracWrongFalsely : Prop := fnExactMakeFracRow.holds Try.pinned (OpenSpec.ofChange fnExactMakeFracWrong)

/-- 'laws.FnExactNearestTo': WHATEVER THE INPUT: true; the input reads as it did. -/
def fnExactNearestToSpec : ChangeSpec := { name := "fnExactNearestTo", fn := fun _ => fun
  | [d1, d2] => { results := [.lit (.bool true)], args := [d1, d2] }
  | _ => none }
def fnExactNearestToRow : OpenClaim := { program := "ytgabjddochcehaa", sum := "e97ca742bf3c5f0defc6f7a927d08c6776615f13831e7fb6015b54677bba5cf6", func := "loop.example/g01254/laws.FnExactNearestTo", spec := "fnExactNearestTo", unfollowed := true, recurses := true, apart := false }
def FnExactNearestToSaid : Prop := fnExactNearestToRow.holds Try.pinned (OpenSpec.ofChange fnExactNearestToSpec)

/-- ITS FALSE NEIGHBOUR: 'it returns false'. Refute it at one input. -/
def fnExactNearestToWrong : ChangeSpec := { name := "fnExactNearestTo", fn := fun _ => fun
  | [d1, d2] => { results := [.lit (.bool false)], args := [d1, d2] }
  | _ => none }
def FnExactNearestToWrongFalsely : Prop := fnExactNearestToRow.holds Try.pinned (OpenSpec.ofChange fnExactNearestToWrong)

/-- 'laws.FnExactAddFracs': WHATEVER THE INPUT: true; the input reads as it did. -/
def fnExactAddFracsSpec : ChangeSpec := { name := "fnExactAddFracs", fn := fun _ => fun
  | [d1, d2] => { results := [.lit (.bool true)], args := [d1, d2] }
  | _ => none }
def fnExactAddFracsRow : OpenClaim := { program := "ytgabjddochcehaa", sum := "e97ca742bf3c5f0defc6f7a927d08c6776615f13831e7fb6015b54677bba5cf6", func := "loop.example/g01254/laws.FnExactAddFracs", spec := "fnExactAddFracs", unfollowed := true, recurses := true, apart := false }
def FnExactAddFracsSaid : Prop := fnExactAddFracsRow.holds Try.pinned (OpenSpec.ofChange fnExactAddFracsSpec)

/-- ITS FALSE NEIGHBOUR: 'it returns false'. Refute it at one input. -/
def fnExactAddFracsWrong : ChangeSpec := { name := "fnExactAddFracs", fn := fun _ => fun
  | [d1, d2] => { results := [.lit (.bool false)], args := [d1, d2] }
  | _ => none }
def FnExactAddFracsWrongFalsely : Prop := fnExactAddFracsRow.holds Try.pinned (OpenSpec.ofChange fnExactAddFracsWrong)

/-- 'laws.FnExactMulFracs': WHATEVER THE INPUT: true; the input reads as it did. -/
def fnExactMulFracsSpec : ChangeSpec := { name := "fnExactMulFracs", fn := fun _ => fun
  | [d1, d2] => { results := [.lit (.bool true)], args := [d1, d2] }
  | _ => none }
def fnExactMulFracsRow : OpenClaim := { program := "ytgabjddochcehaa", sum := "e97ca742bf3c5f0defc6f7a927d08c6776615f13831e7fb6015b54677bba5cf6", func := "loop.example/g01254/laws.FnExactMulFracs", spec := "fnExactMulFracs", unfollowed := true, recurses := true, apart := false }
def FnExactMulFracsSaid : Prop := fnExactMulFracsRow.holds Try.pinned (OpenSpec.ofChange fnExactMulFracsSpec)

/-- ITS FALSE NEIGHBOUR: 'it returns false'. Refute it at one input. -/
def fnExactMulFracsWrong : ChangeSpec := { name := "fnExactMulFracs", fn := fun _ => fun
  | [d1, d2] => { results := [.lit (.bool false)], args := [d1, d2] }
  | _ => none }
def FnExactMulFracsWrongFalsely : Prop := fnExactMulFracsRow.holds Try.pinned (OpenSpec.ofChange fnExactMulFracsWrong)

/-- 'laws.FnExactSubFracs': WHATEVER THE INPUT: true; the input reads as it did. -/
def fnExactSubFracsSpec : ChangeSpec := { name := "fnExactSubFracs", fn := fun _ => fun
  | [d1, d2] => { results := [.lit (.bool true)], args := [d1, d2] }
  | _ => none }
def fnExactSubFracsRow : OpenClaim := { program := "ytgabjddochcehaa", sum := "e97ca742bf3c5f0defc6f7a927d08c6776615f13831e7fb6015b54677bba5cf6", func := "loop.example/g01254/laws.FnExactSubFracs", spec := "fnExactSubFracs", unfollowed := true, recurses := true, apart := false }
def FnExactSubFracsSaid : Prop := fnExactSubFracsRow.holds Try.pinned (OpenSpec.ofChange fnExactSubFracsSpec)

/-- ITS FALSE NEIGHBOUR: 'it returns false'. Refute it at one input. -/
def fnExactSubFracsWrong : ChangeSpec := { name := "fnExactSubFracs", fn := fun _ => fun
  | [d1, d2] => { results := [.lit (.bool false)], args := [d1, d2] }
  | _ => none }
def FnExactSubFracsWrongFalsely : Prop := fnExactSubFracsRow.holds Try.pinned (OpenSpec.ofChange fnExactSubFracsWrong)

/- THE SECOND FORM. 'bulk': how many values and letters a reading holds, each counted each time it is reached (what is shared counts as often as it is met; a slice's spare places count too). A statement '..UptoSaid' is the law's where the arguments, and the package variables that the reading takes, are together of bulk at most 1048576: NARROWER than '..Said'. Prove '..Said' where nothing that the law and all that it calls make is longer than what came in: it says more and counts as full. Else prove '..UptoSaid'. A law counts once. -/
mutual
def uptoBulk {H : Type} : DataW H → Nat
  | .lit (.string bytes) => bytes.length + 1
  | .lit _ => 1
  | .nil => 1
  | .ptr d => uptoBulk d + 1
  | .slice elems spare => uptoBulkAll elems + uptoBulkAll spare + 1
  | .agg parts => uptoBulkAll parts + 1
  | .iface _ d => uptoBulk d + 1
  | .map entries => uptoBulkEntries entries + 1
  | .held _ => 1
def uptoBulkAll {H : Type} : List (DataW H) → Nat
  | [] => 0
  | d :: r => uptoBulk d + uptoBulkAll r
def uptoBulkEntries {H : Type} : List (Lit × DataW H) → Nat
  | [] => 0
  | x :: r => uptoBulkEntry x + uptoBulkEntries r
def uptoBulkEntry {H : Type} : Lit × DataW H → Nat
  | (.string bytes, d) => bytes.length + uptoBulk d + 1
  | (_, d) => uptoBulk d + 1
 end
def uptoSmall : (H : Type) → List (DataW H) → Bool := fun _ ds => decide (uptoBulkAll ds ≤ 1048576)
def OpenSpec.upto (s : _root_.Go.ChangeSpec) : _root_.Go.OpenSpec := { _root_.Go.OpenSpec.ofChange s with cond := some uptoSmall }

/-- 'laws.FnExactValidDisk', WHERE WHAT IT READS IS OF BULK AT MOST 1048576: true; the input reads as it did. -/
def fnExactValidDiskUptoRow : OpenClaim := { program := "ytgabjddochcehaa", sum := "e97ca742bf3c5f0defc6f7a927d08c6776615f13831e7fb6015b54677bba5cf6", func := "loop.example/g01254/laws.FnExactValidDisk", spec := "fnExactValidDisk", unfollowed := true, recurses := true, apart := false, narrowed := true }
def FnExactValidDiskUptoSaid : Prop := fnExactValidDiskUptoRow.holds Try.pinned (OpenSpec.upto fnExactValidDiskSpec)

/-- 'laws.FnEveryClosing', WHERE WHAT IT READS IS OF BULK AT MOST 1048576: true; the input reads as it did. -/
def fnEveryClosingUptoRow : OpenClaim := { program := "ytgabjddochcehaa", sum := "e97ca742bf3c5f0defc6f7a927d08c6776615f13831e7fb6015b54677bba5cf6", func := "loop.example/g01254/laws.FnEveryClosing", spec := "fnEveryClosing", unfollowed := true, recurses := true, apart := false, narrowed := true }
def FnEveryClosingUptoSaid : Prop := fnEveryClosingUptoRow.holds Try.pinned (OpenSpec.upto fnEveryClosingSpec)

/-- 'laws.FnExactSameScale', WHERE WHAT IT READS IS OF BULK AT MOST 1048576: true; the input reads as it did. -/
def fnExactSameScaleUptoRow : OpenClaim := { program := "ytgabjddochcehaa", sum := "e97ca742bf3c5f0defc6f7a927d08c6776615f13831e7fb6015b54677bba5cf6", func := "loop.example/g01254/laws.FnExactSameScale", spec := "fnExactSameScale", apart := false, narrowed := true }
def FnExactSameScaleUptoSaid : Prop := fnExactSameScaleUptoRow.holds Try.pinned (OpenSpec.upto fnExactSameScaleSpec)

/-- 'laws.FnExactCompareFracs', WHERE WHAT IT READS IS OF BULK AT MOST 1048576: true; the input reads as it did. -/
def fnExactCompareFracsUptoRow : OpenClaim := { program := "ytgabjddochcehaa", sum := "e97ca742bf3c5f0defc6f7a927d08c6776615f13831e7fb6015b54677bba5cf6", func := "loop.example/g01254/laws.FnExactCompareFracs", spec := "fnExactCompareFracs", unfollowed := true, recurses := true, apart := false, narrowed := true }
def FnExactCompareFracsUptoSaid : Prop := fnExactCompareFracsUptoRow.holds Try.pinned (OpenSpec.upto fnExactCompareFracsSpec)

/-- 'laws.FnExactValidScrew', WHERE WHAT IT READS IS OF BULK AT MOST 1048576: true; the input reads as it did. -/
def fnExactValidScrewUptoRow : OpenClaim := { program := "ytgabjddochcehaa", sum := "e97ca742bf3c5f0defc6f7a927d08c6776615f13831e7fb6015b54677bba5cf6", func := "loop.example/g01254/laws.FnExactValidScrew", spec := "fnExactValidScrew", unfollowed := true, recurses := true, apart := false, narrowed := true }
def FnExactValidScrewUptoSaid : Prop := fnExactValidScrewUptoRow.holds Try.pinned (OpenSpec.upto fnExactValidScrewSpec)

/-- 'laws.FnExactInSpan', WHERE WHAT IT READS IS OF BULK AT MOST 1048576: true; the input reads as it did. -/
def fnExactInSpanUptoRow : OpenClaim := { program := "ytgabjddochcehaa", sum := "e97ca742bf3c5f0defc6f7a927d08c6776615f13831e7fb6015b54677bba5cf6", func := "loop.example/g01254/laws.FnExactInSpan", spec := "fnExactInSpan", unfollowed := true, recurses := true, apart := false, narrowed := true }
def FnExactInSpanUptoSaid : Prop := fnExactInSpanUptoRow.holds Try.pinned (OpenSpec.upto fnExactInSpanSpec)

/-- 'laws.FnExactMakeFrac', WHERE WHAT IT READS IS OF BULK AT MOST 1048576: true; the input reads as it did. -/
def fnExactMakeFracUptoRow : OpenClaim := { program := "ytgabjddochcehaa", sum := "e97ca742bf3c5f0defc6f7a927d08c6776615f13831e7fb6015b54677bba5cf6", func := "loop.example/g01254/laws.FnExactMakeFrac", spec := "fnExactMakeFrac", apart := false, narrowed := true }
def FnExactMakeFracUptoSaid : Prop := fnExactMakeFracUptoRow.holds Try.pinned (OpenSpec.upto fnExactMakeFracSpec)

/-- 'laws.FnExactNearestTo', WHERE WHAT IT READS IS OF BULK AT MOST 1048576: true; the input reads as it did. -/
def fnExactNearestToUptoRow : OpenClaim := { program := "ytgabjddochcehaa", sum := "e97ca742bf3c5f0defc6f7a927d08c6776615f13831e7fb6015b54677bba5cf6", func := "loop.example/g01254/laws.FnExactNearestTo", spec := "fnExactNearestTo", unfollowed := true, recurses := true, apart := false, narrowed := true }
def FnExactNearestToUptoSaid : Prop := fnExactNearestToUptoRow.holds Try.pinned (OpenSpec.upto fnExactNearestToSpec)

/-- 'laws.FnExactAddFracs', WHERE WHAT IT READS IS OF BULK AT MOST 1048576: true; the input reads as it did. -/
def fnExactAddFracsUptoRow : OpenClaim := { program := "ytgabjddochcehaa", sum := "e97ca742bf3c5f0defc6f7a927d08c6776615f13831e7fb6015b54677bba5cf6", func := "loop.example/g01254/laws.FnExactAddFracs", spec := "fnExactAddFracs", unfollowed := true, recurses := true, apart := false, narrowed := true }
def FnExactAddFracsUptoSaid : Prop := fnExactAddFracsUptoRow.holds Try.pinned (OpenSpec.upto fnExactAddFracsSpec)

/-- 'laws.FnExactMulFracs', WHERE WHAT IT READS IS OF BULK AT MOST 1048576: true; the input reads as it did. -/
def fnExactMulFracsUptoRow : OpenClaim := { program := "ytgabjddochcehaa", sum := "e97ca742bf3c5f0defc6f7a927d08c6776615f13831e7fb6015b54677bba5cf6", func := "loop.example/g01254/laws.FnExactMulFracs", spec := "fnExactMulFracs", unfollowed := true, recurses := true, apart := false, narrowed := true }
def FnExactMulFracsUptoSaid : Prop := fnExactMulFracsUptoRow.holds Try.pinned (OpenSpec.upto fnExactMulFracsSpec)

/-- 'laws.FnExactSubFracs', WHERE WHAT IT READS IS OF BULK AT MOST 1048576: true; the input reads as it did. -/
def fnExactSubFracsUptoRow : OpenClaim := { program := "ytgabjddochcehaa", sum := "e97ca742bf3c5f0defc6f7a927d08c6776615f13831e7fb6015b54677bba5cf6", func := "loop.example/g01254/laws.FnExactSubFracs", spec := "fnExactSubFracs", unfollowed := true, recurses := true, apart := false, narrowed := true }
def FnExactSubFracsUptoSaid : Prop := fnExactSubFracsUptoRow.holds Try.pinned (OpenSpec.upto fnExactSubFracsSpec)

end Rows
end Go.Proofs.Ytgabjddochcehaa
