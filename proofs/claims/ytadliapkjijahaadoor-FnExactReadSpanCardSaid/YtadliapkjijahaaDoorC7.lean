/- Contracts of both packages' functions on two spans and on lists of spans, for all arguments within the bounds that each names; no other condition. -/
import Derived.Test.YtadliapkjijahaaDoorAb
import Derived.Test.YtadliapkjijahaaDoorC1
import Derived.Test.YtadliapkjijahaaDoorC2
import Derived.Test.YtadliapkjijahaaDoorC3
import Derived.Test.YtadliapkjijahaaDoorC4
import Derived.Test.YtadliapkjijahaaDoorC5
import Derived.Test.YtadliapkjijahaaDoorCL
import Derived.Test.YtadliapkjijahaaDoorC6
import Derived.Test.YtadliapkjijahaaDoorProg
set_option linter.unusedVariables false
set_option linter.unusedSimpArgs false
namespace Go.Proofs.YtadliapkjijahaaDoor
open Ab

def allS (l : List Sn) : Bool := l.all okS
/-! the lesser one and the greater one -/
def lesQ (a b : Q) : Q := if cmpQ a b ≤ 0 then a else b
def greQ (a b : Q) : Q := if 0 ≤ cmpQ a b then a else b
theorem cmpQ_neg (a b : Q) : cmpQ b a = -cmpQ a b := by
  unfold cmpQ
  by_cases h : a.p * b.q < b.p * a.q
  · have : ¬ b.p * a.q < a.p * b.q := by omega
    simp [h, this]
  · by_cases k : b.p * a.q < a.p * b.q <;> simp [h, k]
theorem lesQ_ok {a b : Q} (ha : okQ a = true) (hb : okQ b = true) : okQ (lesQ a b) = true := by unfold lesQ; split <;> assumption
theorem greQ_ok {a b : Q} (ha : okQ a = true) (hb : okQ b = true) : okQ (greQ a b) = true := by unfold greQ; split <;> assumption
abbrev lesSp : Sp := .pf F2 F2ok (fun x => (lesQ x.1 x.2.1).v)
abbrev greSp : Sp := .pf F2 F2ok (fun x => (greQ x.1 x.2.1).v)

end Go.Proofs.YtadliapkjijahaaDoor
