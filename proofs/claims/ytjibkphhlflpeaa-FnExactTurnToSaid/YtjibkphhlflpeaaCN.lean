/- The places of a list of values, for what a loop's frame holds besides; no condition. -/
import Derived.Test.YtjibkphhlflpeaaAb
set_option linter.unusedVariables false
set_option linter.unusedSimpArgs false
namespace Go.Proofs.Ytjibkphhlflpeaa
open Ab

def nthA : List AV → Nat → AV
  | [], _ => .p 0 0
  | a :: _, 0 => a
  | _ :: l, n + 1 => nthA l n
def nthV : List Value → Nat → Value
  | [], _ => .bool false
  | a :: _, 0 => a
  | _ :: l, n + 1 => nthV l n

end Go.Proofs.Ytjibkphhlflpeaa
