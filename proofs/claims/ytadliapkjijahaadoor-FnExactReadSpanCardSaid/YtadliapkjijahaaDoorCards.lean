/-
  DERIVED. GIVEN WITH THE SEED: THE CARDS: each row of YtadliapkjijahaaDoorRows.lean that lists a variable, with what it lists TIED to the program's text (the seventh form; the later family's looks); each row that meets fmt, with fmt's text TOLD by the authors' own Lean function (tested against real Go, not proved from fmt's source: count such statements apart). THE CARD IS WHAT COUNTS. Prove the row's statement (the work); the ties are given (YtadliapkjijahaaDoorTie.lean); close each card by the builder's one call (the guide's Derived/Test/ToyasCard.lean, 'card_holds'). Laid BY PROGRAM, IN A SANDBOX (cutbox-door.mjs). By AI agents, Wed Nov 11 2026. No macro, syntax, notation, axiom, sorry.
-/
import Derived.Test.YtadliapkjijahaaDoorRows
import GoSem.ClaimSeven
namespace Go.Proofs.YtadliapkjijahaaDoor
namespace Rows

/-- THE TIED CARD OF 'laws.FnExactFracText'. -/
def fnExactFracTextCard : Claim7 := { stood := { row := fnExactFracTextRow, standIns := [], harness := (true, "61292adce20281e2bdf9dce7e7bbb9f5c0a4d979e2ff1ee98b4e2cdf187ae3e8"), looks := true }, kinds := [], alts := [], laidByText := true, laidKinds := [.data, .data, .data], laidTests := true, laidLooks := .later }
def FnExactFracTextCardSaid : Prop := Claim7.holds Tryd.pinned (.plain (OpenSpec.ofChange fnExactFracTextSpec)) fnExactFracTextCard

/-- THE TIED CARD OF 'laws.FnExactSpanText'. -/
def fnExactSpanTextCard : Claim7 := { stood := { row := fnExactSpanTextRow, standIns := [], harness := (true, "61292adce20281e2bdf9dce7e7bbb9f5c0a4d979e2ff1ee98b4e2cdf187ae3e8"), looks := true }, kinds := [], alts := [], laidByText := true, laidKinds := [.data, .data, .data], laidTests := true, laidLooks := .later }
def FnExactSpanTextCardSaid : Prop := Claim7.holds Tryd.pinned (.plain (OpenSpec.ofChange fnExactSpanTextSpec)) fnExactSpanTextCard

/-- THE TIED CARD OF 'laws.FnExactScaleText'. -/
def fnExactScaleTextCard : Claim7 := { stood := { row := fnExactScaleTextRow, standIns := [], harness := (true, "61292adce20281e2bdf9dce7e7bbb9f5c0a4d979e2ff1ee98b4e2cdf187ae3e8"), looks := true }, kinds := [], alts := [], laidByText := true, laidKinds := [.data, .data, .data], laidTests := true, laidLooks := .later }
def FnExactScaleTextCardSaid : Prop := Claim7.holds Tryd.pinned (.plain (OpenSpec.ofChange fnExactScaleTextSpec)) fnExactScaleTextCard

/-- THE TIED CARD OF 'laws.FnExactReadFrac'. -/
def fnExactReadFracCard : Claim7 := { stood := { row := fnExactReadFracRow, standIns := [], harness := (true, "61292adce20281e2bdf9dce7e7bbb9f5c0a4d979e2ff1ee98b4e2cdf187ae3e8"), looks := true }, kinds := [], alts := [], laidByText := true, laidKinds := [.data, .data, .data, .sentinel, .sentinel], laidTests := true, laidLooks := .later }
def FnExactReadFracCardSaid : Prop := Claim7.holds Tryd.pinned (.plain (OpenSpec.ofChange fnExactReadFracSpec)) fnExactReadFracCard

/-- THE TIED CARD OF 'laws.FnExactReadSpan'. -/
def fnExactReadSpanCard : Claim7 := { stood := { row := fnExactReadSpanRow, standIns := [], harness := (true, "61292adce20281e2bdf9dce7e7bbb9f5c0a4d979e2ff1ee98b4e2cdf187ae3e8"), looks := true }, kinds := [], alts := [], laidByText := true, laidKinds := [.data, .data, .data, .sentinel, .sentinel], laidTests := true, laidLooks := .later }
def FnExactReadSpanCardSaid : Prop := Claim7.holds Tryd.pinned (.plain (OpenSpec.ofChange fnExactReadSpanSpec)) fnExactReadSpanCard

/-- THE SECOND FORM's CARD OF 'laws.FnExactFracText'. -/
def fnExactFracTextUptoCard : Claim7 := { stood := { row := fnExactFracTextUptoRow, standIns := [], harness := (true, "61292adce20281e2bdf9dce7e7bbb9f5c0a4d979e2ff1ee98b4e2cdf187ae3e8"), looks := true }, kinds := [], alts := [], laidByText := true, laidKinds := [.data, .data, .data], laidTests := true, laidLooks := .later }
def FnExactFracTextUptoCardSaid : Prop := Claim7.holds Tryd.pinned (.plain (OpenSpec.upto fnExactFracTextSpec)) fnExactFracTextUptoCard

/-- THE SECOND FORM's CARD OF 'laws.FnExactSpanText'. -/
def fnExactSpanTextUptoCard : Claim7 := { stood := { row := fnExactSpanTextUptoRow, standIns := [], harness := (true, "61292adce20281e2bdf9dce7e7bbb9f5c0a4d979e2ff1ee98b4e2cdf187ae3e8"), looks := true }, kinds := [], alts := [], laidByText := true, laidKinds := [.data, .data, .data], laidTests := true, laidLooks := .later }
def FnExactSpanTextUptoCardSaid : Prop := Claim7.holds Tryd.pinned (.plain (OpenSpec.upto fnExactSpanTextSpec)) fnExactSpanTextUptoCard

/-- THE SECOND FORM's CARD OF 'laws.FnExactScaleText'. -/
def fnExactScaleTextUptoCard : Claim7 := { stood := { row := fnExactScaleTextUptoRow, standIns := [], harness := (true, "61292adce20281e2bdf9dce7e7bbb9f5c0a4d979e2ff1ee98b4e2cdf187ae3e8"), looks := true }, kinds := [], alts := [], laidByText := true, laidKinds := [.data, .data, .data], laidTests := true, laidLooks := .later }
def FnExactScaleTextUptoCardSaid : Prop := Claim7.holds Tryd.pinned (.plain (OpenSpec.upto fnExactScaleTextSpec)) fnExactScaleTextUptoCard

/-- THE SECOND FORM's CARD OF 'laws.FnExactReadFrac'. -/
def fnExactReadFracUptoCard : Claim7 := { stood := { row := fnExactReadFracUptoRow, standIns := [], harness := (true, "61292adce20281e2bdf9dce7e7bbb9f5c0a4d979e2ff1ee98b4e2cdf187ae3e8"), looks := true }, kinds := [], alts := [], laidByText := true, laidKinds := [.data, .data, .data, .sentinel, .sentinel], laidTests := true, laidLooks := .later }
def FnExactReadFracUptoCardSaid : Prop := Claim7.holds Tryd.pinned (.plain (OpenSpec.upto fnExactReadFracSpec)) fnExactReadFracUptoCard

/-- THE SECOND FORM's CARD OF 'laws.FnExactReadSpan'. -/
def fnExactReadSpanUptoCard : Claim7 := { stood := { row := fnExactReadSpanUptoRow, standIns := [], harness := (true, "61292adce20281e2bdf9dce7e7bbb9f5c0a4d979e2ff1ee98b4e2cdf187ae3e8"), looks := true }, kinds := [], alts := [], laidByText := true, laidKinds := [.data, .data, .data, .sentinel, .sentinel], laidTests := true, laidLooks := .later }
def FnExactReadSpanUptoCardSaid : Prop := Claim7.holds Tryd.pinned (.plain (OpenSpec.upto fnExactReadSpanSpec)) fnExactReadSpanUptoCard
end Rows
end Go.Proofs.YtadliapkjijahaaDoor
