/- This text proves the plain law of the statement FnExactTurnFromSaid: spec and impl tell the same turn between every two angles, or refuse alike.
Conditions: both arguments are 64-bit ints; nothing else. -/
import Derived.Test.YtboammhfkogipaaPFnExactTurnFromx1
namespace Go.Proofs.Ytboammhfkogipaa.Pure
open Go.RowKit Go.Proofs.Ytboammhfkogipaa.PFnExactTurnFrom Go.Proofs.YtboammhfkogipaaW.PrintWords Go.Proofs.YtboammhfkogipaaW.PrintLast

/-- YOURS: ∀ (a0 : Int) (a1 : Int), (Lit.int .i64 a0).wf = true → (Lit.int .i64 a1).wf = true → laws_FnExactTurnFrom.f a0 a1 = some true
What it reaches (each with k first where it has rounds; `.mono`: more rounds tell the same; `.l0`, ..: its loops, with `.mono_l`): spec_l00In.f, spec_l03Angle.f, spec_l03Wrap.f, spec_l03Turn.f, spec_TurnFrom.f, impl_within.f, impl_isAngle.f, impl_wrap.f, impl_turnFrom.f, impl_TurnFrom.f, laws_FnExactTurnFrom.f -/
theorem FnExactTurnFrom : laws_FnExactTurnFrom.Pure := by
  intro a0 a1 h0 h1
  simp only [laws_FnExactTurnFrom.f, spec_TurnFrom.f, impl_TurnFrom.f, spec_l03Angle.f, impl_isAngle.f,
    spec_l00In.f, impl_within.f, spec_l03Turn.f, impl_turnFrom.f, spec_l03Wrap.f, impl_wrap.f]
  have hw : ∀ n : Int, -9000000 ≤ n → n ≤ 9000000 → wrap64 n = n := by
    intro n h1 h2
    unfold wrap64
    omega
  by_cases c1 : 0 ≤ a0 <;> by_cases c2 : a0 ≤ 1295999 <;> by_cases c3 : 0 ≤ a1 <;>
    by_cases c4 : a1 ≤ 1295999 <;> simp [c1, c2, c3, c4]
  rw [hw (a1 - a0) (by omega) (by omega)]
  have h1 : Int.tmod (a1 - a0) 1296000 = a1 - a0 := by
    by_cases hc : 0 ≤ a1 - a0
    · exact Int.tmod_eq_of_lt hc (by omega)
    · have h3 := Int.neg_tmod (a0 - a1) 1296000
      rw [Int.tmod_eq_of_lt (show 0 ≤ a0 - a1 by omega) (show a0 - a1 < 1296000 by omega)] at h3
      rw [Int.neg_sub] at h3
      omega
  rw [h1, hw (a1 - a0 + 1296000) (by omega) (by omega)]
  by_cases c5 : a1 - a0 < 0
  · rw [if_pos c5]
    have h2 : Int.tmod (a1 - a0 + 1296000) 1296000 = a1 - a0 + 1296000 :=
      Int.tmod_eq_of_lt (by omega) (by omega)
    rw [h2]
    by_cases c6 : 648000 < a1 - a0 + 1296000 <;> simp [c6]
  · rw [if_neg c5]
    have h2 : Int.tmod (a1 - a0 + 1296000) 1296000 = a1 - a0 := by
      rw [Int.tmod_eq_emod_of_nonneg (by omega)]
      omega
    rw [h2]
    by_cases c6 : 648000 < a1 - a0 <;> simp [c6]

end Go.Proofs.Ytboammhfkogipaa.Pure
