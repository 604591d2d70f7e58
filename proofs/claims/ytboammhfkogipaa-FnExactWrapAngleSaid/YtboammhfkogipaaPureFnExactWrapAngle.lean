/- This text proves the plain law of the statement FnExactWrapAngleSaid: spec and impl wrap every angle alike.
Conditions: the argument is a 64-bit int; nothing else. -/
import Derived.Test.YtboammhfkogipaaPFnExactWrapAnglex1
namespace Go.Proofs.Ytboammhfkogipaa.Pure
open Go.RowKit Go.Proofs.Ytboammhfkogipaa.PFnExactWrapAngle Go.Proofs.YtboammhfkogipaaW.PrintWords Go.Proofs.YtboammhfkogipaaW.PrintLast

/-- YOURS: ∀ (a0 : Int), (Lit.int .i64 a0).wf = true → laws_FnExactWrapAngle.f a0 = some true
What it reaches (each with k first where it has rounds; `.mono`: more rounds tell the same; `.l0`, ..: its loops, with `.mono_l`): spec_l00In.f, spec_l03Wrap.f, spec_WrapAngle.f, impl_within.f, impl_wrap.f, impl_WrapAngle.f, laws_FnExactWrapAngle.f -/
theorem FnExactWrapAngle : laws_FnExactWrapAngle.Pure := by
  intro a0 h
  simp only [laws_FnExactWrapAngle.f, spec_WrapAngle.f, impl_WrapAngle.f, spec_l00In.f, impl_within.f,
    spec_l03Wrap.f, impl_wrap.f]
  have hw : ∀ n : Int, -3000000 ≤ n → n ≤ 3000000 → wrap64 n = n := by
    intro n h1 h2
    unfold wrap64
    omega
  have h1 : -1296000 < Int.tmod a0 1296000 ∧ Int.tmod a0 1296000 < 1296000 := by
    have := Int.tmod_lt_of_pos a0 (b := 1296000) (by decide)
    have := Int.lt_tmod_of_pos a0 (b := 1296000) (by decide)
    omega
  rw [hw (Int.tmod a0 1296000 + 1296000) (by omega) (by omega)]
  by_cases c1 : -1000000000000 ≤ a0 <;> by_cases c2 : a0 ≤ 1000000000000 <;>
    by_cases c3 : Int.tmod a0 1296000 < 0 <;>
    simp [c1, c2, c3]
  all_goals (rw [Int.tmod_eq_emod_of_nonneg (a := Int.tmod a0 1296000 + 1296000) (by omega)]; omega)

end Go.Proofs.Ytboammhfkogipaa.Pure
