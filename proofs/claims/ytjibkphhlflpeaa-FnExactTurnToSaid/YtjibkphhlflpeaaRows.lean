/-
  No cell of these rows narrows 'for every input' (looked for: loops, veiled, ifaces, maps, wideKeys, modest, calm, conditions, laid).
  DERIVED. THE GIVEN ROWS OF THIS SEAT. 2 by the template 'for every input the law returns true; each argument reads behind the call as it read before'; 0 by the template 'total and deterministic' (their statements: YtjibkphhlflpeaaTotals.lean).
  GIVEN WITH THE SEED: the statements are not yours to turn. If you find one false, say at which input.
  Laid BY PROGRAM, IN A SANDBOX (cutbox-rows.mjs): the forced cells as the released guide's own fill.sh prints them over the translation e10e97f1b369f98f… (all of the seat's roots in one cut). By AI agents, Wed Nov 11 2026. No macro, syntax, notation, axiom, sorry.
-/
import Derived.Test.YtjibkphhlflpeaaChecked
import GoSem.Claim
import GoSem.ClaimJoined
import GoSem.ClaimMapViews
import Derived.JoinedTies
import Derived.KernelRfl
namespace Go.Proofs.Ytjibkphhlflpeaa
/- THE CELL 'sum', in the pinned program and in every row, IS THE sha256 OF THE DUMP (.gsa) THAT YtjibkphhlflpeaaProg.lean LOADS. Nothing in Lean hashes anything: it is a label: what it is worth is what the hold of that sum in a sandbox is worth. -/
noncomputable def Try.pinned : Pinned := { name := "ytjibkphhlflpeaa", sum := "e10e97f1b369f98fbb4f4a2fe8500b89894778f1674559fdfadabd9c2b1c9fa0", checked := Try.checked }
namespace Rows
def none {H : Type} : Left H := { results := [], args := [] }

/-- 'laws.FnExactPlayFound': WHATEVER THE INPUT: true; the input reads as it did. -/
def fnExactPlayFoundSpec : ChangeSpec := { name := "fnExactPlayFound", fn := fun _ => fun
  | [d1, d2, d3] => { results := [.lit (.bool true)], args := [d1, d2, d3] }
  | _ => none }
def fnExactPlayFoundRow : OpenClaim := { program := "ytjibkphhlflpeaa", sum := "e10e97f1b369f98fbb4f4a2fe8500b89894778f1674559fdfadabd9c2b1c9fa0", func := "loop.example/g01254/laws.FnExactPlayFound", spec := "fnExactPlayFound", unfollowed := true, recurses := true, apart := false }
def FnExactPlayFoundSaid : Prop := fnExactPlayFoundRow.holds Try.pinned (OpenSpec.ofChange fnExactPlayFoundSpec)

/-- ITS FALSE NEIGHBOUR: 'it returns false'. Refute it at one input. -/
def fnExactPlayFoundWrong : ChangeSpec := { name := "fnExactPlayFound", fn := fun _ => fun
  | [d1, d2, d3] => { results := [.lit (.bool false)], args := [d1, d2, d3] }
  | _ => none }
def FnExactPlayFoundWrongFalsely : Prop := fnExactPlayFoundRow.holds Try.pinned (OpenSpec.ofChange fnExactPlayFoundWrong)

/-- 'laws.FnExactTurnTo': WHATEVER THE INPUT: true; the input reads as it did. -/
def fnExactTurnToSpec : ChangeSpec := { name := "fnExactTurnTo", fn := fun _ => fun
  | [d1, d2, d3, d4] => { results := [.lit (.bool true)], args := [d1, d2, d3, d4] }
  | _ => none }
def fnExactTurnToRow : OpenClaim := { program := "ytjibkphhlflpeaa", sum := "e10e97f1b369f98fbb4f4a2fe8500b89894778f1674559fdfadabd9c2b1c9fa0", func := "loop.example/g01254/laws.FnExactTurnTo", spec := "fnExactTurnTo", unfollowed := true, recurses := true, apart := false }
def FnExactTurnToSaid : Prop := fnExactTurnToRow.holds Try.pinned (OpenSpec.ofChange fnExactTurnToSpec)

/-- ITS FALSE NEIGHBOUR: 'it returns false'. Refute it at one input. -/
def fnExactTurnToWrong : ChangeSpec := { name := "fnExactTurnTo", fn := fun _ => fun
  | [d1, d2, d3, d4] => { results := [.lit (.bool false)], args := [d1, d2, d3, d4] }
  | _ => none }
def FnExactTurnToWrongFalsely : Prop := fnExactTurnToRow.holds Try.pinned (OpenSpec.ofChange fnExactTurnToWrong)

/- THE SECOND FORM. 'bulk': how many values and letters a reading holds, each counted each time it is reached (what is shared counts as often as it is met; a slice's spare places count too). A statement '..UptoSaid' is the law's where the arguments, and the package variables that the reading takes, are together of bulk at most 1048576: NARROWER than '..Said'. Prove '..Said' where nothing that the law and all that it calls make is longer than what came in: it says more and counts as full. Else prove '..UptoSaid'. A law counts once. -/
mutual
def uptoBulk {H : Type} : DataW H → Nat
  | .lit (.string bytes) => bytes.length + 1
  | .lit _ => 1
  | .nil => 1
  | .ptr d => uptoBulk d + 1
  | .slice elems spare => uptoBulkAll elems + uptoBulkAll spare + 1
  | .agg parts => uptoBulkAll parts + 1
  | .iface _ d => uptoBulk d + 1
  | .map entries => uptoBulkEntries entries + 1
  | .held _ => 1
def uptoBulkAll {H : Type} : List (DataW H) → Nat
  | [] => 0
  | d :: r => uptoBulk d + uptoBulkAll r
def uptoBulkEntries {H : Type} : List (Lit × DataW H) → Nat
  | [] => 0
  | x :: r => uptoBulkEntry x + uptoBulkEntries r
def uptoBulkEntry {H : Type} : Lit × DataW H → Nat
  | (.string bytes, d) => bytes.length + uptoBulk d + 1
  | (_, d) => uptoBulk d + 1
 end
def uptoSmall : (H : Type) → List (DataW H) → Bool := fun _ ds => decide (uptoBulkAll ds ≤ 1048576)
def OpenSpec.upto (s : _root_.Go.ChangeSpec) : _root_.Go.OpenSpec := { _root_.Go.OpenSpec.ofChange s with cond := some uptoSmall }

/-- 'laws.FnExactPlayFound', WHERE WHAT IT READS IS OF BULK AT MOST 1048576: true; the input reads as it did. -/
def fnExactPlayFoundUptoRow : OpenClaim := { program := "ytjibkphhlflpeaa", sum := "e10e97f1b369f98fbb4f4a2fe8500b89894778f1674559fdfadabd9c2b1c9fa0", func := "loop.example/g01254/laws.FnExactPlayFound", spec := "fnExactPlayFound", unfollowed := true, recurses := true, apart := false, narrowed := true }
def FnExactPlayFoundUptoSaid : Prop := fnExactPlayFoundUptoRow.holds Try.pinned (OpenSpec.upto fnExactPlayFoundSpec)

/-- 'laws.FnExactTurnTo', WHERE WHAT IT READS IS OF BULK AT MOST 1048576: true; the input reads as it did. -/
def fnExactTurnToUptoRow : OpenClaim := { program := "ytjibkphhlflpeaa", sum := "e10e97f1b369f98fbb4f4a2fe8500b89894778f1674559fdfadabd9c2b1c9fa0", func := "loop.example/g01254/laws.FnExactTurnTo", spec := "fnExactTurnTo", unfollowed := true, recurses := true, apart := false, narrowed := true }
def FnExactTurnToUptoSaid : Prop := fnExactTurnToUptoRow.holds Try.pinned (OpenSpec.upto fnExactTurnToSpec)

end Rows
end Go.Proofs.Ytjibkphhlflpeaa
