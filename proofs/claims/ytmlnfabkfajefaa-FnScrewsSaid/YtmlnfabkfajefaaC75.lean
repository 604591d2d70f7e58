/- Comparing two spindles, or two fractions, for equality; no condition. -/
import Derived.Test.YtmlnfabkfajefaaAb
import Derived.Test.YtmlnfabkfajefaaC1
import Derived.Test.YtmlnfabkfajefaaC2
import Derived.Test.YtmlnfabkfajefaaC3
import Derived.Test.YtmlnfabkfajefaaC4
import Derived.Test.YtmlnfabkfajefaaC5
import Derived.Test.YtmlnfabkfajefaaCL
import Derived.Test.YtmlnfabkfajefaaC6
import Derived.Test.YtmlnfabkfajefaaC7
import Derived.Test.YtmlnfabkfajefaaC8
import Derived.Test.YtmlnfabkfajefaaC9
import Derived.Test.YtmlnfabkfajefaaCO
import Derived.Test.YtmlnfabkfajefaaC12
import Derived.Test.YtmlnfabkfajefaaC14
import Derived.Test.YtmlnfabkfajefaaC27
import Derived.Test.YtmlnfabkfajefaaProg
import Derived.Laws.StructEq
set_option linter.unusedVariables false
set_option linter.unusedSimpArgs false
namespace Go.Proofs.Ytmlnfabkfajefaa
open Ab

theorem eqCells3 {m n : List Value} {r : Bool} (hl : m.length = 3) (h : eqCells m n = some r) : ∃ j j' j2 a b x c d y, m = [.int j a, .int j' b, .int j2 x] ∧ n = [.int j c, .int j' d, .int j2 y] ∧ r = ((a == c) && ((b == d) && (x == y))) := by
  match m, hl with
  | [u, v, w], _ =>
    obtain ⟨j, a, c, n', r', rfl, rfl, h1, rfl⟩ := eqCells1 h
    obtain ⟨j', b, d, n2, r2, rfl, rfl, h2, rfl⟩ := eqCells1 h1
    obtain ⟨j2, x, y, n3, r3, rfl, rfl, h3, rfl⟩ := eqCells1 h2
    obtain ⟨rfl, rfl⟩ := eqCells0 h3
    exact ⟨j, j', j2, a, b, x, c, d, y, rfl, rfl, by simp⟩
theorem run_part2 {xs : Array Value} {t : TypeId} {o z : Nat} (w : World) (ht : ∀ w, (isAgg t).run Try.prog w = .ok true w) (hz : ∀ w, (sizeOf t).run Try.prog w = .ok z w) : (part t xs o).run Try.prog w = .ok (.agg (xs.extract o (o + z))) w := by
  unfold part
  rw [Sem.run_bind, ht]
  simp only [Result.andThen_ok, if_true]
  rw [Sem.run_bind, hz]
  simp only [Result.andThen_ok, Sem.run_pure]
theorem eq_spin (d : Nat) (w : World) (j j' j2 : IntKind) (a b x c e y : Int) : (Op.equalIn (d + 4) 30 (.agg #[.int j a, .int j' b, .int j2 x]) (.agg #[.int j c, .int j' e, .int j2 y])).run Try.prog w = .ok ((a == c) && ((b == e) && (x == y))) w := by
  have hi : ∀ w, (isAgg 2).run Try.prog w = .ok false w := fun w => prun_none (by kernel_rfl) w
  have hg : ∀ w, (isAgg 25).run Try.prog w = .ok true w := fun w => prun_none (by kernel_rfl) w
  have hz : ∀ w, (sizeOf 25).run Try.prog w = .ok 2 w := fun w => prun_none (by kernel_rfl) w
  rw [run_equalIn_agg w (d + 3) 30 _ _ (by kernel_rfl) (by kernel_rfl)]
  have hf : (Program.fieldsOf Try.prog 30).toList = (match Try.prog.underlying 30 with | some (.struct fs) => fs.toList | _ => []) := by kernel_rfl
  rw [hf]
  rw [Try.underlying30]
  have h1 : (#[.int j a, .int j' b, .int j2 x] : Array Value).extract 1 (1 + 2) = #[.int j' b, .int j2 x] := by simp
  have h2 : (#[.int j c, .int j' e, .int j2 y] : Array Value).extract 1 (1 + 2) = #[.int j' e, .int j2 y] := by simp
  simp [Op.eqFields, run_part1 _ hi, run_part2 _ hg hz, eq_frac (d + 1), run_equalIn_int _ _ _ _ _ _ _ Try.underlying2, Result.andThen]
  by_cases h1 : a = c <;> by_cases h2 : b = e <;> by_cases h3 : x = y <;> simp [h1, h2, h3]
abbrev eqS : List (TypeId × Nat) := [(25, 2), (30, 3)]
theorem eqokS : EqOk Try.prog eqS := by
  intro t m n r h x y w
  unfold eqS eqOf at h
  split at h
  · rename_i hb
    rw [Bool.and_eq_true] at hb
    obtain ⟨j, j', a, b, c, d, rfl, rfl, rfl⟩ := eqCells2 (Nat.eq_of_beq_eq_true hb.2) h
    obtain rfl := Nat.eq_of_beq_eq_true hb.1
    have hg : Program.eqGuardType Try.prog (Program.depth Try.prog) 25 = false := by kernel_rfl
    refine ⟨?_, ?_⟩
    · rw [Sem.run_bind, run_eqGuard_agg w .eql _ x y _ _ hg]
      simp only [Result.andThen_ok, run_eql_struct, eq_frac 9998]
    · rw [Sem.run_bind, run_eqGuard_agg w .neq _ x y _ _ hg]
      simp only [Result.andThen_ok, run_neq_struct, eq_frac 9998]
  · unfold eqOf at h
    split at h
    · rename_i hb
      rw [Bool.and_eq_true] at hb
      obtain ⟨j, j', j2, a, b, u, c, d, v, rfl, rfl, rfl⟩ := eqCells3 (Nat.eq_of_beq_eq_true hb.2) h
      obtain rfl := Nat.eq_of_beq_eq_true hb.1
      have hg : Program.eqGuardType Try.prog (Program.depth Try.prog) 30 = false := by kernel_rfl
      refine ⟨?_, ?_⟩
      · rw [Sem.run_bind, run_eqGuard_agg w .eql _ x y _ _ hg]
        simp only [Result.andThen_ok, run_eql_struct, eq_spin 9996]
      · rw [Sem.run_bind, run_eqGuard_agg w .neq _ x y _ _ hg]
        simp only [Result.andThen_ok, run_neq_struct, eq_spin 9996]
    · simp [eqOf] at h

end Go.Proofs.Ytmlnfabkfajefaa
