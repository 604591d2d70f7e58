/- Comparing two fractions, and the comparison that a sort is given, walked over the whole world: blocks are laid, draws go on, nothing else turns; conditions: parts of valid fractions. -/
import Derived.Test.YtadliapkjijahaaGreatDoorAb
import Derived.Test.YtadliapkjijahaaGreatDoorC1
import Derived.Test.YtadliapkjijahaaGreatDoorC2
import Derived.Test.YtadliapkjijahaaGreatDoorC3
import Derived.Test.YtadliapkjijahaaGreatDoorProg
import Derived.WalkKit
import Derived.Deep.QuietTactic
import Derived.BigQuiet
import Derived.Deep.Slices
import Derived.Sort.Row
set_option linter.unusedVariables false
set_option linter.unusedSimpArgs false
namespace Go.Proofs.YtadliapkjijahaaGreatDoor
open Ab

open Go.RowKit Go.Lib Go.Sort
theorem grow2 (W : World) (A B : Obj) (n : Nat) : ((W.alloc A).alloc B).drewN n = grow (W.drewN n) #[A, B] := by
  unfold grow World.drewN World.alloc
  simp only [World.mk.injEq, and_true, true_and]
  exact Array.toList_inj.1 (by simp)
theorem grow4 (W : World) (A B : Obj) (n : Nat) (os : Array Obj) : grow (((W.alloc A).alloc B).drewN n) os = grow (W.drewN n) (#[A, B] ++ os) := by
  unfold grow World.drewN World.alloc
  simp only [World.mk.injEq, and_true, true_and]
  exact Array.toList_inj.1 (by simp)
set_option maxHeartbeats 2000000 in
theorem cmp_runs (a b c d : Int) (h1 : IntKind.i64.wrap (a * d) = a * d) (h2 : IntKind.i64.wrap (c * b) = c * b) (W : World) : Calls Tryz.prog 58 #[.agg #[.int .i64 a, .int .i64 b], .agg #[.int .i64 c, .int .i64 d]] W fun e w' => e = .returned (.int .i64 (cmpQ ⟨a, b⟩ ⟨c, d⟩)) ∧ ∃ q os', w' = grow (W.drewN q) os' := by
  by_cases hlt : a * d < c * b
  · have e : cmpQ ⟨a, b⟩ ⟨c, d⟩ = -1 := by unfold cmpQ; rw [if_pos hlt]
    rw [e]
    clear e
    generalize hx : a * d = x at *
    generalize hy : c * b = y at *
    go_enter Tryz.func58, Tryz.ntmps58
    go_wp2_with fail
    go_quiet (fail)
    go_wp2_with fail
    go_ret
    exact ⟨rfl, _, _, grow2 _ _ _ _⟩
  · by_cases hgt : c * b < a * d
    · have e : cmpQ ⟨a, b⟩ ⟨c, d⟩ = 1 := by unfold cmpQ; rw [if_neg hlt, if_pos hgt]
      rw [e]
      clear e
      generalize hx : a * d = x at *
      generalize hy : c * b = y at *
      go_enter Tryz.func58, Tryz.ntmps58
      go_wp2_with fail
      go_quiet (fail)
      go_wp2_with fail
      go_ret
      exact ⟨rfl, _, _, grow2 _ _ _ _⟩
    · have e : cmpQ ⟨a, b⟩ ⟨c, d⟩ = 0 := by unfold cmpQ; rw [if_neg hlt, if_neg hgt]
      rw [e]
      clear e
      generalize hx : a * d = x at *
      generalize hy : c * b = y at *
      go_enter Tryz.func58, Tryz.ntmps58
      go_wp2_with fail
      go_quiet (fail)
      go_wp2_with fail
      go_ret
      exact ⟨rfl, _, _, grow2 _ _ _ _⟩
set_option maxHeartbeats 2000000 in
theorem asc1_runs (a b c d : Int) (h1 : IntKind.i64.wrap (a * d) = a * d) (h2 : IntKind.i64.wrap (c * b) = c * b) (W : World) : Calls Tryz.prog 101 #[.agg #[.int .i64 a, .int .i64 b], .agg #[.int .i64 c, .int .i64 d]] W fun e w' => e = .returned (.int .i64 (cmpQ ⟨a, b⟩ ⟨c, d⟩)) ∧ ∃ q os', w' = grow (W.drewN q) os' := by
  have hcon := fun W' => cmp_runs a b c d h1 h2 W'
  generalize cmpQ ⟨a, b⟩ ⟨c, d⟩ = r at hcon ⊢
  go_enter Tryz.func101, Tryz.ntmps101
  go_wp2_with (go_at_call 58; refine (hcon _).mono ?_; rintro e w' ⟨rfl, q, os, rfl⟩)
  go_ret
  exact ⟨rfl, _, _, grow4 _ _ _ _ _⟩

end Go.Proofs.YtadliapkjijahaaGreatDoor
