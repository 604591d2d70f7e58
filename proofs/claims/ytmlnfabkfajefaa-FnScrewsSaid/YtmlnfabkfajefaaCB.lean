/- Byte strings as arguments of a row; no condition. -/
import Derived.Test.YtmlnfabkfajefaaAb
import Derived.Test.YtmlnfabkfajefaaC1
import Derived.Test.YtmlnfabkfajefaaC2
import Derived.Test.YtmlnfabkfajefaaC3
import Derived.Test.YtmlnfabkfajefaaC4
import Derived.Test.YtmlnfabkfajefaaC5
import Derived.Test.YtmlnfabkfajefaaCL
import Derived.Test.YtmlnfabkfajefaaC6
import Derived.Test.YtmlnfabkfajefaaC7
import Derived.Test.YtmlnfabkfajefaaC8
import Derived.Test.YtmlnfabkfajefaaC9
import Derived.Test.YtmlnfabkfajefaaCO
import Derived.Test.YtmlnfabkfajefaaProg
set_option linter.unusedVariables false
set_option linter.unusedSimpArgs false
namespace Go.Proofs.Ytmlnfabkfajefaa
open Ab

section
variable {P : Program}
def U8 (n : Int) : Prop := 0 ≤ n ∧ n ≤ 255
theorem each_u8 {i : TypeId} (hi : P.underlying i = some (.int .u8)) {H : Type} {enc : TypeId × Value → H} {w : World} {base : Nat} {spare : Nat → Bool} {held : Bool} (vs : List Value) (h : Each (LeafAt enc P w base spare held) [i] vs) : ∃ x : Int, vs = [.int .u8 x] ∧ U8 x := by
  obtain ⟨v, r, rfl, h1, k⟩ := h.cons
  obtain ⟨p, rfl, hp⟩ := leaf_int hi h1
  obtain rfl := k.nil
  refine ⟨p, rfl, ?_⟩
  simp [Lit.wf, IntKind.min, IntKind.max, IntKind.signed, IntKind.bits] at hp
  exact hp
end

end Go.Proofs.Ytmlnfabkfajefaa
