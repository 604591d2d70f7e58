/- This text proves the plain law of the statement FnExactCodeNameSaid: spec and impl give every code the same name.
Conditions: the argument is a 64-bit int; nothing else. -/
import Derived.Test.YtboammhfkogipaaPFnExactCodeNamex1
namespace Go.Proofs.Ytboammhfkogipaa.Pure
open Go.RowKit Go.Proofs.Ytboammhfkogipaa.PFnExactCodeName Go.Proofs.YtboammhfkogipaaW.PrintWords Go.Proofs.YtboammhfkogipaaW.PrintLast

/-- YOURS: ∀ (a0 : Int), (Lit.int .i64 a0).wf = true → laws_FnExactCodeName.f a0 = some true
What it reaches (each with k first where it has rounds; `.mono`: more rounds tell the same; `.l0`, ..: its loops, with `.mono_l`): spec_l00In.f, spec_CodeName.f, impl_within.f, impl_CodeName.f, laws_FnExactCodeName.f -/
theorem FnExactCodeName : laws_FnExactCodeName.Pure := by
  intro a0 h0
  simp only [laws_FnExactCodeName.f, spec_CodeName.f, impl_CodeName.f, spec_l00In.f, impl_within.f]
  by_cases c1 : 0 ≤ a0 <;> by_cases c2 : a0 ≤ 8 <;> simp [c1, c2]
  have c3 : a0 < 9 := by omega
  simp [c3]

end Go.Proofs.Ytboammhfkogipaa.Pure
