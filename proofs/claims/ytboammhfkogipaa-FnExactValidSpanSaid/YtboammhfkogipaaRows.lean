/-
  No cell of these rows narrows 'for every input' (looked for: loops, veiled, ifaces, maps, wideKeys, modest, calm, conditions, laid).
  DERIVED. THE GIVEN ROWS OF THIS SEAT. 12 by the template 'for every input the law returns true; each argument reads behind the call as it read before'; 0 by the template 'total and deterministic' (their statements: YtboammhfkogipaaTotals.lean).
  GIVEN WITH THE SEED: the statements are not yours to turn. If you find one false, say at which input.
  Laid BY PROGRAM, IN A SANDBOX (cutbox-rows.mjs): the forced cells as the released guide's own fill.sh prints them over the translation 258256f6d67765e3… (all of the seat's roots in one cut). By AI agents, Wed Nov 11 2026. No macro, syntax, notation, axiom, sorry.
-/
import Derived.Test.YtboammhfkogipaaChecked
import GoSem.Claim
import GoSem.ClaimJoined
import GoSem.ClaimMapViews
import Derived.JoinedTies
import Derived.KernelRfl
namespace Go.Proofs.Ytboammhfkogipaa
/- THE CELL 'sum', in the pinned program and in every row, IS THE sha256 OF THE DUMP (.gsa) THAT YtboammhfkogipaaProg.lean LOADS. Nothing in Lean hashes anything: it is a label: what it is worth is what the hold of that sum in a sandbox is worth. -/
noncomputable def Try.pinned : Pinned := { name := "ytboammhfkogipaa", sum := "258256f6d67765e3c85796dd2fa49b11bd559fae8b421360974e2c7362e13d51", checked := Try.checked }
namespace Rows
def none {H : Type} : Left H := { results := [], args := [] }

/-- 'laws.FnExactConstants': WHATEVER THE INPUT: true; the input reads as it did. -/
def fnExactConstantsSpec : ChangeSpec := { name := "fnExactConstants", fn := fun _ => fun
  | [] => { results := [.lit (.bool true)], args := [] }
  | _ => none }
def fnExactConstantsRow : OpenClaim := { program := "ytboammhfkogipaa", sum := "258256f6d67765e3c85796dd2fa49b11bd559fae8b421360974e2c7362e13d51", func := "loop.example/g01254/laws.FnExactConstants", spec := "fnExactConstants", apart := false }
def FnExactConstantsSaid : Prop := fnExactConstantsRow.holds Try.pinned (OpenSpec.ofChange fnExactConstantsSpec)

/-- ITS FALSE NEIGHBOUR: 'it returns false'. Refute it at one input. -/
def fnExactConstantsWrong : ChangeSpec := { name := "fnExactConstants", fn := fun _ => fun
  | [] => { results := [.lit (.bool false)], args := [] }
  | _ => none }
def FnExactConstantsWrongFalsely : Prop := fnExactConstantsRow.holds Try.pinned (OpenSpec.ofChange fnExactConstantsWrong)

/-- 'laws.FnExactValidVernier': WHATEVER THE INPUT: true; the input reads as it did. -/
def fnExactValidVernierSpec : ChangeSpec := { name := "fnExactValidVernier", fn := fun _ => fun
  | [d] => { results := [.lit (.bool true)], args := [d] }
  | _ => none }
def fnExactValidVernierRow : OpenClaim := { program := "ytboammhfkogipaa", sum := "258256f6d67765e3c85796dd2fa49b11bd559fae8b421360974e2c7362e13d51", func := "loop.example/g01254/laws.FnExactValidVernier", spec := "fnExactValidVernier", apart := false }
def FnExactValidVernierSaid : Prop := fnExactValidVernierRow.holds Try.pinned (OpenSpec.ofChange fnExactValidVernierSpec)

/-- ITS FALSE NEIGHBOUR: 'it returns false'. Refute it at one input. -/
def fnExactValidVernierWrong : ChangeSpec := { name := "fnExactValidVernier", fn := fun _ => fun
  | [d] => { results := [.lit (.bool false)], args := [d] }
  | _ => none }
def FnExactValidVernierWrongFalsely : Prop := fnExactValidVernierRow.holds Try.pinned (OpenSpec.ofChange fnExactValidVernierWrong)

/-- 'laws.FnExactCodeName': WHATEVER THE INPUT: true; the input reads as it did. -/
def fnExactCodeNameSpec : ChangeSpec := { name := "fnExactCodeName", fn := fun _ => fun
  | [d] => { results := [.lit (.bool true)], args := [d] }
  | _ => none }
def fnExactCodeNameRow : OpenClaim := { program := "ytboammhfkogipaa", sum := "258256f6d67765e3c85796dd2fa49b11bd559fae8b421360974e2c7362e13d51", func := "loop.example/g01254/laws.FnExactCodeName", spec := "fnExactCodeName", apart := false }
def FnExactCodeNameSaid : Prop := fnExactCodeNameRow.holds Try.pinned (OpenSpec.ofChange fnExactCodeNameSpec)

/-- ITS FALSE NEIGHBOUR: 'it returns false'. Refute it at one input. -/
def fnExactCodeNameWrong : ChangeSpec := { name := "fnExactCodeName", fn := fun _ => fun
  | [d] => { results := [.lit (.bool false)], args := [d] }
  | _ => none }
def FnExactCodeNameWrongFalsely : Prop := fnExactCodeNameRow.holds Try.pinned (OpenSpec.ofChange fnExactCodeNameWrong)

/-- 'laws.FnExactWrapAngle': WHATEVER THE INPUT: true; the input reads as it did. -/
def fnExactWrapAngleSpec : ChangeSpec := { name := "fnExactWrapAngle", fn := fun _ => fun
  | [d] => { results := [.lit (.bool true)], args := [d] }
  | _ => none }
def fnExactWrapAngleRow : OpenClaim := { program := "ytboammhfkogipaa", sum := "258256f6d67765e3c85796dd2fa49b11bd559fae8b421360974e2c7362e13d51", func := "loop.example/g01254/laws.FnExactWrapAngle", spec := "fnExactWrapAngle", apart := false }
def FnExactWrapAngleSaid : Prop := fnExactWrapAngleRow.holds Try.pinned (OpenSpec.ofChange fnExactWrapAngleSpec)

/-- ITS FALSE NEIGHBOUR: 'it returns false'. Refute it at one input. -/
def fnExactWrapAngleWrong : ChangeSpec := { name := "fnExactWrapAngle", fn := fun _ => fun
  | [d] => { results := [.lit (.bool false)], args := [d] }
  | _ => none }
def FnExactWrapAngleWrongFalsely : Prop := fnExactWrapAngleRow.holds Try.pinned (OpenSpec.ofChange fnExactWrapAngleWrong)

/-- 'laws.FnExactValidFrac': WHATEVER THE INPUT: true; the input reads as it did. -/
def fnExactValidFracSpec : ChangeSpec := { name := "fnExactValidFrac", fn := fun _ => fun
  | [d] => { results := [.lit (.bool true)], args := [d] }
  | _ => none }
def fnExactValidFracRow : OpenClaim := { program := "ytboammhfkogipaa", sum := "258256f6d67765e3c85796dd2fa49b11bd559fae8b421360974e2c7362e13d51", func := "loop.example/g01254/laws.FnExactValidFrac", spec := "fnExactValidFrac", apart := false }
def FnExactValidFracSaid : Prop := fnExactValidFracRow.holds Try.pinned (OpenSpec.ofChange fnExactValidFracSpec)

/-- ITS FALSE NEIGHBOUR: 'it returns false'. Refute it at one input. -/
def fnExactValidFracWrong : ChangeSpec := { name := "fnExactValidFrac", fn := fun _ => fun
  | [d] => { results := [.lit (.bool false)], args := [d] }
  | _ => none }
def FnExactValidFracWrongFalsely : Prop := fnExactValidFracRow.holds Try.pinned (OpenSpec.ofChange fnExactValidFracWrong)

/-- 'laws.FnExactTurnFrom': WHATEVER THE INPUT: true; the input reads as it did. -/
def fnExactTurnFromSpec : ChangeSpec := { name := "fnExactTurnFrom", fn := fun _ => fun
  | [d1, d2] => { results := [.lit (.bool true)], args := [d1, d2] }
  | _ => none }
def fnExactTurnFromRow : OpenClaim := { program := "ytboammhfkogipaa", sum := "258256f6d67765e3c85796dd2fa49b11bd559fae8b421360974e2c7362e13d51", func := "loop.example/g01254/laws.FnExactTurnFrom", spec := "fnExactTurnFrom", apart := false }
def FnExactTurnFromSaid : Prop := fnExactTurnFromRow.holds Try.pinned (OpenSpec.ofChange fnExactTurnFromSpec)

/-- ITS FALSE NEIGHBOUR: 'it returns false'. Refute it at one input. -/
def fnExactTurnFromWrong : ChangeSpec := { name := "fnExactTurnFrom", fn := fun _ => fun
  | [d1, d2] => { results := [.lit (.bool false)], args := [d1, d2] }
  | _ => none }
def FnExactTurnFromWrongFalsely : Prop := fnExactTurnFromRow.holds Try.pinned (OpenSpec.ofChange fnExactTurnFromWrong)

/-- 'laws.FnExactWhole': WHATEVER THE INPUT: true; the input reads as it did. -/
def fnExactWholeSpec : ChangeSpec := { name := "fnExactWhole", fn := fun _ => fun
  | [d] => { results := [.lit (.bool true)], args := [d] }
  | _ => none }
def fnExactWholeRow : OpenClaim := { program := "ytboammhfkogipaa", sum := "258256f6d67765e3c85796dd2fa49b11bd559fae8b421360974e2c7362e13d51", func := "loop.example/g01254/laws.FnExactWhole", spec := "fnExactWhole", apart := false }
def FnExactWholeSaid : Prop := fnExactWholeRow.holds Try.pinned (OpenSpec.ofChange fnExactWholeSpec)

/-- ITS FALSE NEIGHBOUR: 'it returns false'. Refute it at one input. -/
def fnExactWholeWrong : ChangeSpec := { name := "fnExactWhole", fn := fun _ => fun
  | [d] => { results := [.lit (.bool false)], args := [d] }
  | _ => none }
def FnExactWholeWrongFalsely : Prop := fnExactWholeRow.holds Try.pinned (OpenSpec.ofChange fnExactWholeWrong)

/-- 'laws.FnScrews': WHATEVER THE INPUT: true; the input reads as it did. -/
def fnScrewsSpec : ChangeSpec := { name := "fnScrews", fn := fun _ => fun
  | [d1, d2] => { results := [.lit (.bool true)], args := [d1, d2] }
  | _ => none }
def fnScrewsRow : OpenClaim := { program := "ytboammhfkogipaa", sum := "258256f6d67765e3c85796dd2fa49b11bd559fae8b421360974e2c7362e13d51", func := "loop.example/g01254/laws.FnScrews", spec := "fnScrews", unfollowed := true, recurses := true, apart := false }
def FnScrewsSaid : Prop := fnScrewsRow.holds Try.pinned (OpenSpec.ofChange fnScrewsSpec)

/-- ITS FALSE NEIGHBOUR: 'it returns false'. Refute it at one input. -/
def fnScrewsWrong : ChangeSpec := { name := "fnScrews", fn := fun _ => fun
  | [d1, d2] => { results := [.lit (.bool false)], args := [d1, d2] }
  | _ => none }
def FnScrewsWrongFalsely : Prop := fnScrewsRow.holds Try.pinned (OpenSpec.ofChange fnScrewsWrong)

/-- 'laws.FnExactFloorOf': WHATEVER THE INPUT: true; the input reads as it did. -/
def fnExactFloorOfSpec : ChangeSpec := { name := "fnExactFloorOf", fn := fun _ => fun
  | [d] => { results := [.lit (.bool true)], args := [d] }
  | _ => none }
def fnExactFloorOfRow : OpenClaim := { program := "ytboammhfkogipaa", sum := "258256f6d67765e3c85796dd2fa49b11bd559fae8b421360974e2c7362e13d51", func := "loop.example/g01254/laws.FnExactFloorOf", spec := "fnExactFloorOf", apart := false }
def FnExactFloorOfSaid : Prop := fnExactFloorOfRow.holds Try.pinned (OpenSpec.ofChange fnExactFloorOfSpec)

/-- ITS FALSE NEIGHBOUR: 'it returns false'. Refute it at one input. -/
def fnExactFloorOfWrong : ChangeSpec := { name := "fnExactFloorOf", fn := fun _ => fun
  | [d] => { results := [.lit (.bool false)], args := [d] }
  | _ => none }
def FnExactFloorOfWrongFalsely : Prop := fnExactFloorOfRow.holds Try.pinned (OpenSpec.ofChange fnExactFloorOfWrong)

/-- 'laws.FnExactClosingOf': WHATEVER THE INPUT: true; the input reads as it did. -/
def fnExactClosingOfSpec : ChangeSpec := { name := "fnExactClosingOf", fn := fun _ => fun
  | [d] => { results := [.lit (.bool true)], args := [d] }
  | _ => none }
def fnExactClosingOfRow : OpenClaim := { program := "ytboammhfkogipaa", sum := "258256f6d67765e3c85796dd2fa49b11bd559fae8b421360974e2c7362e13d51", func := "loop.example/g01254/laws.FnExactClosingOf", spec := "fnExactClosingOf", unfollowed := true, recurses := true, apart := false }
def FnExactClosingOfSaid : Prop := fnExactClosingOfRow.holds Try.pinned (OpenSpec.ofChange fnExactClosingOfSpec)

/-- ITS FALSE NEIGHBOUR: 'it returns false'. Refute it at one input. -/
def fnExactClosingOfWrong : ChangeSpec := { name := "fnExactClosingOf", fn := fun _ => fun
  | [d] => { results := [.lit (.bool false)], args := [d] }
  | _ => none }
def FnExactClosingOfWrongFalsely : Prop := fnExactClosingOfRow.holds Try.pinned (OpenSpec.ofChange fnExactClosingOfWrong)

/-- 'laws.FnExactSameDisk': WHATEVER THE INPUT: true; the input reads as it did. -/
def fnExactSameDiskSpec : ChangeSpec := { name := "fnExactSameDisk", fn := fun _ => fun
  | [d1, d2] => { results := [.lit (.bool true)], args := [d1, d2] }
  | _ => none }
def fnExactSameDiskRow : OpenClaim := { program := "ytboammhfkogipaa", sum := "258256f6d67765e3c85796dd2fa49b11bd559fae8b421360974e2c7362e13d51", func := "loop.example/g01254/laws.FnExactSameDisk", spec := "fnExactSameDisk", apart := false }
def FnExactSameDiskSaid : Prop := fnExactSameDiskRow.holds Try.pinned (OpenSpec.ofChange fnExactSameDiskSpec)

/-- ITS FALSE NEIGHBOUR: 'it returns false'. Refute it at one input. -/
def fnExactSameDiskWrong : ChangeSpec := { name := "fnExactSameDisk", fn := fun _ => fun
  | [d1, d2] => { results := [.lit (.bool false)], args := [d1, d2] }
  | _ => none }
def FnExactSameDiskWrongFalsely : Prop := fnExactSameDiskRow.holds Try.pinned (OpenSpec.ofChange fnExactSameDiskWrong)

/-- 'laws.FnExactValidSpan': WHATEVER THE INPUT: true; the input reads as it did. -/
def fnExactValidSpanSpec : ChangeSpec := { name := "fnExactValidSpan", fn := fun _ => fun
  | [d] => { results := [.lit (.bool true)], args := [d] }
  | _ => none }
def fnExactValidSpanRow : OpenClaim := { program := "ytboammhfkogipaa", sum := "258256f6d67765e3c85796dd2fa49b11bd559fae8b421360974e2c7362e13d51", func := "loop.example/g01254/laws.FnExactValidSpan", spec := "fnExactValidSpan", unfollowed := true, recurses := true, apart := false }
def FnExactValidSpanSaid : Prop := fnExactValidSpanRow.holds Try.pinned (OpenSpec.ofChange fnExactValidSpanSpec)

/-- ITS FALSE NEIGHBOUR: 'it returns false'. Refute it at one input. -/
def fnExactValidSpanWrong : ChangeSpec := { name := "fnExactValidSpan", fn := fun _ => fun
  | [d] => { results := [.lit (.bool false)], args := [d] }
  | _ => none }
def FnExactValidSpanWrongFalsely : Prop := fnExactValidSpanRow.holds Try.pinned (OpenSpec.ofChange fnExactValidSpanWrong)

/- THE SECOND FORM. 'bulk': how many values and letters a reading holds, each counted each time it is reached (what is shared counts as often as it is met; a slice's spare places count too). A statement '..UptoSaid' is the law's where the arguments, and the package variables that the reading takes, are together of bulk at most 1048576: NARROWER than '..Said'. Prove '..Said' where nothing that the law and all that it calls make is longer than what came in: it says more and counts as full. Else prove '..UptoSaid'. A law counts once. -/
mutual
def uptoBulk {H : Type} : DataW H → Nat
  | .lit (.string bytes) => bytes.length + 1
  | .lit _ => 1
  | .nil => 1
  | .ptr d => uptoBulk d + 1
  | .slice elems spare => uptoBulkAll elems + uptoBulkAll spare + 1
  | .agg parts => uptoBulkAll parts + 1
  | .iface _ d => uptoBulk d + 1
  | .map entries => uptoBulkEntries entries + 1
  | .held _ => 1
def uptoBulkAll {H : Type} : List (DataW H) → Nat
  | [] => 0
  | d :: r => uptoBulk d + uptoBulkAll r
def uptoBulkEntries {H : Type} : List (Lit × DataW H) → Nat
  | [] => 0
  | x :: r => uptoBulkEntry x + uptoBulkEntries r
def uptoBulkEntry {H : Type} : Lit × DataW H → Nat
  | (.string bytes, d) => bytes.length + uptoBulk d + 1
  | (_, d) => uptoBulk d + 1
 end
def uptoSmall : (H : Type) → List (DataW H) → Bool := fun _ ds => decide (uptoBulkAll ds ≤ 1048576)
def OpenSpec.upto (s : _root_.Go.ChangeSpec) : _root_.Go.OpenSpec := { _root_.Go.OpenSpec.ofChange s with cond := some uptoSmall }

/-- 'laws.FnExactConstants', WHERE WHAT IT READS IS OF BULK AT MOST 1048576: true; the input reads as it did. -/
def fnExactConstantsUptoRow : OpenClaim := { program := "ytboammhfkogipaa", sum := "258256f6d67765e3c85796dd2fa49b11bd559fae8b421360974e2c7362e13d51", func := "loop.example/g01254/laws.FnExactConstants", spec := "fnExactConstants", apart := false, narrowed := true }
def FnExactConstantsUptoSaid : Prop := fnExactConstantsUptoRow.holds Try.pinned (OpenSpec.upto fnExactConstantsSpec)

/-- 'laws.FnExactValidVernier', WHERE WHAT IT READS IS OF BULK AT MOST 1048576: true; the input reads as it did. -/
def fnExactValidVernierUptoRow : OpenClaim := { program := "ytboammhfkogipaa", sum := "258256f6d67765e3c85796dd2fa49b11bd559fae8b421360974e2c7362e13d51", func := "loop.example/g01254/laws.FnExactValidVernier", spec := "fnExactValidVernier", apart := false, narrowed := true }
def FnExactValidVernierUptoSaid : Prop := fnExactValidVernierUptoRow.holds Try.pinned (OpenSpec.upto fnExactValidVernierSpec)

/-- 'laws.FnExactCodeName', WHERE WHAT IT READS IS OF BULK AT MOST 1048576: true; the input reads as it did. -/
def fnExactCodeNameUptoRow : OpenClaim := { program := "ytboammhfkogipaa", sum := "258256f6d67765e3c85796dd2fa49b11bd559fae8b421360974e2c7362e13d51", func := "loop.example/g01254/laws.FnExactCodeName", spec := "fnExactCodeName", apart := false, narrowed := true }
def FnExactCodeNameUptoSaid : Prop := fnExactCodeNameUptoRow.holds Try.pinned (OpenSpec.upto fnExactCodeNameSpec)

/-- 'laws.FnExactWrapAngle', WHERE WHAT IT READS IS OF BULK AT MOST 1048576: true; the input reads as it did. -/
def fnExactWrapAngleUptoRow : OpenClaim := { program := "ytboammhfkogipaa", sum := "258256f6d67765e3c85796dd2fa49b11bd559fae8b421360974e2c7362e13d51", func := "loop.example/g01254/laws.FnExactWrapAngle", spec := "fnExactWrapAngle", apart := false, narrowed := true }
def FnExactWrapAngleUptoSaid : Prop := fnExactWrapAngleUptoRow.holds Try.pinned (OpenSpec.upto fnExactWrapAngleSpec)

/-- 'laws.FnExactValidFrac', WHERE WHAT IT READS IS OF BULK AT MOST 1048576: true; the input reads as it did. -/
def fnExactValidFracUptoRow : OpenClaim := { program := "ytboammhfkogipaa", sum := "258256f6d67765e3c85796dd2fa49b11bd559fae8b421360974e2c7362e13d51", func := "loop.example/g01254/laws.FnExactValidFrac", spec := "fnExactValidFrac", apart := false, narrowed := true }
def FnExactValidFracUptoSaid : Prop := fnExactValidFracUptoRow.holds Try.pinned (OpenSpec.upto fnExactValidFracSpec)

/-- 'laws.FnExactTurnFrom', WHERE WHAT IT READS IS OF BULK AT MOST 1048576: true; the input reads as it did. -/
def fnExactTurnFromUptoRow : OpenClaim := { program := "ytboammhfkogipaa", sum := "258256f6d67765e3c85796dd2fa49b11bd559fae8b421360974e2c7362e13d51", func := "loop.example/g01254/laws.FnExactTurnFrom", spec := "fnExactTurnFrom", apart := false, narrowed := true }
def FnExactTurnFromUptoSaid : Prop := fnExactTurnFromUptoRow.holds Try.pinned (OpenSpec.upto fnExactTurnFromSpec)

/-- 'laws.FnExactWhole', WHERE WHAT IT READS IS OF BULK AT MOST 1048576: true; the input reads as it did. -/
def fnExactWholeUptoRow : OpenClaim := { program := "ytboammhfkogipaa", sum := "258256f6d67765e3c85796dd2fa49b11bd559fae8b421360974e2c7362e13d51", func := "loop.example/g01254/laws.FnExactWhole", spec := "fnExactWhole", apart := false, narrowed := true }
def FnExactWholeUptoSaid : Prop := fnExactWholeUptoRow.holds Try.pinned (OpenSpec.upto fnExactWholeSpec)

/-- 'laws.FnScrews', WHERE WHAT IT READS IS OF BULK AT MOST 1048576: true; the input reads as it did. -/
def fnScrewsUptoRow : OpenClaim := { program := "ytboammhfkogipaa", sum := "258256f6d67765e3c85796dd2fa49b11bd559fae8b421360974e2c7362e13d51", func := "loop.example/g01254/laws.FnScrews", spec := "fnScrews", unfollowed := true, recurses := true, apart := false, narrowed := true }
def FnScrewsUptoSaid : Prop := fnScrewsUptoRow.holds Try.pinned (OpenSpec.upto fnScrewsSpec)

/-- 'laws.FnExactFloorOf', WHERE WHAT IT READS IS OF BULK AT MOST 1048576: true; the input reads as it did. -/
def fnExactFloorOfUptoRow : OpenClaim := { program := "ytboammhfkogipaa", sum := "258256f6d67765e3c85796dd2fa49b11bd559fae8b421360974e2c7362e13d51", func := "loop.example/g01254/laws.FnExactFloorOf", spec := "fnExactFloorOf", apart := false, narrowed := true }
def FnExactFloorOfUptoSaid : Prop := fnExactFloorOfUptoRow.holds Try.pinned (OpenSpec.upto fnExactFloorOfSpec)

/-- 'laws.FnExactClosingOf', WHERE WHAT IT READS IS OF BULK AT MOST 1048576: true; the input reads as it did. -/
def fnExactClosingOfUptoRow : OpenClaim := { program := "ytboammhfkogipaa", sum := "258256f6d67765e3c85796dd2fa49b11bd559fae8b421360974e2c7362e13d51", func := "loop.example/g01254/laws.FnExactClosingOf", spec := "fnExactClosingOf", unfollowed := true, recurses := true, apart := false, narrowed := true }
def FnExactClosingOfUptoSaid : Prop := fnExactClosingOfUptoRow.holds Try.pinned (OpenSpec.upto fnExactClosingOfSpec)

/-- 'laws.FnExactSameDisk', WHERE WHAT IT READS IS OF BULK AT MOST 1048576: true; the input reads as it did. -/
def fnExactSameDiskUptoRow : OpenClaim := { program := "ytboammhfkogipaa", sum := "258256f6d67765e3c85796dd2fa49b11bd559fae8b421360974e2c7362e13d51", func := "loop.example/g01254/laws.FnExactSameDisk", spec := "fnExactSameDisk", apart := false, narrowed := true }
def FnExactSameDiskUptoSaid : Prop := fnExactSameDiskUptoRow.holds Try.pinned (OpenSpec.upto fnExactSameDiskSpec)

/-- 'laws.FnExactValidSpan', WHERE WHAT IT READS IS OF BULK AT MOST 1048576: true; the input reads as it did. -/
def fnExactValidSpanUptoRow : OpenClaim := { program := "ytboammhfkogipaa", sum := "258256f6d67765e3c85796dd2fa49b11bd559fae8b421360974e2c7362e13d51", func := "loop.example/g01254/laws.FnExactValidSpan", spec := "fnExactValidSpan", unfollowed := true, recurses := true, apart := false, narrowed := true }
def FnExactValidSpanUptoSaid : Prop := fnExactValidSpanUptoRow.holds Try.pinned (OpenSpec.upto fnExactValidSpanSpec)

end Rows
end Go.Proofs.Ytboammhfkogipaa
