/- Contracts of the laws' own functions that turn and compare values, for all arguments; no condition. -/
import Derived.Test.YtmlnfabkfajefaaAb
import Derived.Test.YtmlnfabkfajefaaC1
import Derived.Test.YtmlnfabkfajefaaProg
set_option linter.unusedVariables false
set_option linter.unusedSimpArgs false
namespace Go.Proofs.Ytmlnfabkfajefaa
open Ab

abbrev toFracSp : Sp := .pf F1 (fun _ => True) (fun x => x.1.v)
abbrev eqFracSp : Sp := .pf F2 (fun _ => True) (fun x => .bool (decide (x.1 = x.2.1)))
abbrev S1 : ArgL (Sn × Unit) := .cons .span .nil
abbrev S2 : ArgL (Sn × Sn × Unit) := .cons .span (.cons .span .nil)
abbrev toSpanSp : Sp := .pf S1 (fun _ => True) (fun x => x.1.v)
abbrev eqSpanSp : Sp := .pf S2 (fun _ => True) (fun x => .bool (decide (x.1 = x.2.1)))

end Go.Proofs.Ytmlnfabkfajefaa
