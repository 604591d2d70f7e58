/- Byte strings as arguments of a row; no condition. -/
import Derived.Test.YtadliapkjijahaaGreatDoorAb
import Derived.Test.YtadliapkjijahaaGreatDoorC1
import Derived.Test.YtadliapkjijahaaGreatDoorC2
import Derived.Test.YtadliapkjijahaaGreatDoorC3
import Derived.Test.YtadliapkjijahaaGreatDoorC4
import Derived.Test.YtadliapkjijahaaGreatDoorC5
import Derived.Test.YtadliapkjijahaaGreatDoorCL
import Derived.Test.YtadliapkjijahaaGreatDoorC6
import Derived.Test.YtadliapkjijahaaGreatDoorC7
import Derived.Test.YtadliapkjijahaaGreatDoorC8
import Derived.Test.YtadliapkjijahaaGreatDoorC9
import Derived.Test.YtadliapkjijahaaGreatDoorCO
import Derived.Test.YtadliapkjijahaaGreatDoorProg
set_option linter.unusedVariables false
set_option linter.unusedSimpArgs false
namespace Go.Proofs.YtadliapkjijahaaGreatDoor
open Ab

section
variable {P : Program}
def U8 (n : Int) : Prop := 0 ≤ n ∧ n ≤ 255
theorem each_u8 {i : TypeId} (hi : P.underlying i = some (.int .u8)) {H : Type} {enc : TypeId × Value → H} {w : World} {base : Nat} {spare : Nat → Bool} {held : Bool} (vs : List Value) (h : Each (LeafAt enc P w base spare held) [i] vs) : ∃ x : Int, vs = [.int .u8 x] ∧ U8 x := by
  obtain ⟨v, r, rfl, h1, k⟩ := h.cons
  obtain ⟨p, rfl, hp⟩ := leaf_int hi h1
  obtain rfl := k.nil
  refine ⟨p, rfl, ?_⟩
  simp [Lit.wf, IntKind.min, IntKind.max, IntKind.signed, IntKind.bits] at hp
  exact hp
end

end Go.Proofs.YtadliapkjijahaaGreatDoor
