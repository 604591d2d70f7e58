/-
  DERIVED. GIVEN WITH THE SEED: THE CARDS: each row of YtadliapkjijahaaGreatDoorRows.lean that lists a variable, with what it lists TIED to the program's text (the seventh form; the later family's looks); each row that meets fmt, with fmt's text TOLD by the authors' own Lean function (tested against real Go, not proved from fmt's source: count such statements apart). THE CARD IS WHAT COUNTS. Prove the row's statement (the work); the ties are given (YtadliapkjijahaaGreatDoorTie.lean); close each card by the builder's one call (the guide's Derived/Test/ToyasCard.lean, 'card_holds'). Laid BY PROGRAM, IN A SANDBOX (cutbox-door.mjs). By AI agents, Wed Nov 11 2026. No macro, syntax, notation, axiom, sorry.
-/
import Derived.Test.YtadliapkjijahaaGreatDoorRows
import GoSem.ClaimSeven
namespace Go.Proofs.YtadliapkjijahaaGreatDoor
namespace Rows

/-- THE TIED CARD OF 'laws.FnSpans'. -/
def fnSpansCard : Claim7 := { stood := { row := fnSpansRow, standIns := [], harness := (true, "d8851b1f8e208512b5aed6c3ecd401b53318de1a20eb16030472638cb7830571"), looks := true }, kinds := [], alts := [], laidByText := true, laidKinds := [.data, .data, .data, .sentinel, .sentinel], laidTests := true, laidLooks := .later }
def FnSpansCardSaid : Prop := Claim7.holds Tryz.pinned (.plain (OpenSpec.ofChange fnSpansSpec)) fnSpansCard

/-- THE TIED CARD OF 'laws.FnExactReadScale'. -/
def fnExactReadScaleCard : Claim7 := { stood := { row := fnExactReadScaleRow, standIns := [], harness := (true, "d8851b1f8e208512b5aed6c3ecd401b53318de1a20eb16030472638cb7830571"), looks := true }, kinds := [], alts := [], laidByText := true, laidKinds := [.data, .data, .data, .data, .sentinel, .sentinel, .pinned], laidTests := true, laidLooks := .later }
def FnExactReadScaleCardSaid : Prop := Claim7.holds Tryz.pinned (.plain (OpenSpec.ofChange fnExactReadScaleSpec)) fnExactReadScaleCard

/-- THE TIED CARD OF 'laws.FnScales'. -/
def fnScalesCard : Claim7 := { stood := { row := fnScalesRow, standIns := [], harness := (true, "d8851b1f8e208512b5aed6c3ecd401b53318de1a20eb16030472638cb7830571"), looks := true }, kinds := [], alts := [], laidByText := true, laidKinds := [.data, .data, .data, .data, .sentinel, .sentinel, .pinned], laidTests := true, laidLooks := .later }
def FnScalesCardSaid : Prop := Claim7.holds Tryz.pinned (.plain (OpenSpec.ofChange fnScalesSpec)) fnScalesCard

/-- THE SECOND FORM's CARD OF 'laws.FnSpans'. -/
def fnSpansUptoCard : Claim7 := { stood := { row := fnSpansUptoRow, standIns := [], harness := (true, "d8851b1f8e208512b5aed6c3ecd401b53318de1a20eb16030472638cb7830571"), looks := true }, kinds := [], alts := [], laidByText := true, laidKinds := [.data, .data, .data, .sentinel, .sentinel], laidTests := true, laidLooks := .later }
def FnSpansUptoCardSaid : Prop := Claim7.holds Tryz.pinned (.plain (OpenSpec.upto fnSpansSpec)) fnSpansUptoCard

/-- THE SECOND FORM's CARD OF 'laws.FnExactReadScale'. -/
def fnExactReadScaleUptoCard : Claim7 := { stood := { row := fnExactReadScaleUptoRow, standIns := [], harness := (true, "d8851b1f8e208512b5aed6c3ecd401b53318de1a20eb16030472638cb7830571"), looks := true }, kinds := [], alts := [], laidByText := true, laidKinds := [.data, .data, .data, .data, .sentinel, .sentinel, .pinned], laidTests := true, laidLooks := .later }
def FnExactReadScaleUptoCardSaid : Prop := Claim7.holds Tryz.pinned (.plain (OpenSpec.upto fnExactReadScaleSpec)) fnExactReadScaleUptoCard

/-- THE SECOND FORM's CARD OF 'laws.FnScales'. -/
def fnScalesUptoCard : Claim7 := { stood := { row := fnScalesUptoRow, standIns := [], harness := (true, "d8851b1f8e208512b5aed6c3ecd401b53318de1a20eb16030472638cb7830571"), looks := true }, kinds := [], alts := [], laidByText := true, laidKinds := [.data, .data, .data, .data, .sentinel, .sentinel, .pinned], laidTests := true, laidLooks := .later }
def FnScalesUptoCardSaid : Prop := Claim7.holds Tryz.pinned (.plain (OpenSpec.upto fnScalesSpec)) fnScalesUptoCard
end Rows
end Go.Proofs.YtadliapkjijahaaGreatDoor
