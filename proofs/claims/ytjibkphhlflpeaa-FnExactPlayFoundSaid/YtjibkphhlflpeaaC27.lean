/- Contracts of the functions that compare scales, for all scales that lie in memory; no other condition. -/
import Derived.Test.YtjibkphhlflpeaaAb
import Derived.Test.YtjibkphhlflpeaaC1
import Derived.Test.YtjibkphhlflpeaaC2
import Derived.Test.YtjibkphhlflpeaaC3
import Derived.Test.YtjibkphhlflpeaaC4
import Derived.Test.YtjibkphhlflpeaaC5
import Derived.Test.YtjibkphhlflpeaaCL
import Derived.Test.YtjibkphhlflpeaaC6
import Derived.Test.YtjibkphhlflpeaaC7
import Derived.Test.YtjibkphhlflpeaaC8
import Derived.Test.YtjibkphhlflpeaaC9
import Derived.Test.YtjibkphhlflpeaaCO
import Derived.Test.YtjibkphhlflpeaaC12
import Derived.Test.YtjibkphhlflpeaaC14
import Derived.Test.YtjibkphhlflpeaaProg
import Derived.Laws.StructEq
set_option linter.unusedVariables false
set_option linter.unusedSimpArgs false
namespace Go.Proofs.Ytjibkphhlflpeaa
open Ab

section
variable {P : Program}
theorem eqCells1 {x : Value} {m n : List Value} {r : Bool} (h : eqCells (x :: m) n = some r) : ∃ j a c n' r', x = .int j a ∧ n = .int j c :: n' ∧ eqCells m n' = some r' ∧ r = ((a == c) && r') := by
  unfold eqCells at h
  split at h
  · rename_i heq
    cases heq
  · rename_i _ j a r0 k b q heq
    cases heq
    split at h
    · rename_i t hjk ht
      cases h
      have : j = k := by simpa using hjk
      subst this
      exact ⟨j, a, b, q, t, rfl, rfl, ht, rfl⟩
    · cases h
  · cases h
theorem eqCells0 {n : List Value} {r : Bool} (h : eqCells [] n = some r) : n = [] ∧ r = true := by
  unfold eqCells at h
  split at h
  · cases h; exact ⟨rfl, rfl⟩
  · rename_i heq; cases heq
  · cases h
theorem eqCells2 {m n : List Value} {r : Bool} (hl : m.length = 2) (h : eqCells m n = some r) : ∃ j j' a b c d, m = [.int j a, .int j' b] ∧ n = [.int j c, .int j' d] ∧ r = ((a == c) && (b == d)) := by
  match m, hl with
  | [x, y], _ =>
    obtain ⟨j, a, c, n', r', rfl, rfl, h1, rfl⟩ := eqCells1 h
    obtain ⟨j', b, d, n2, r2, rfl, rfl, h2, rfl⟩ := eqCells1 h1
    obtain ⟨rfl, rfl⟩ := eqCells0 h2
    exact ⟨j, j', a, b, c, d, rfl, rfl, by simp⟩
end
theorem run_part1 {xs : Array Value} {t : TypeId} {o : Nat} {v : Value} (w : World) (ht : ∀ w, (isAgg t).run Try.prog w = .ok false w) (h : xs[o]? = some v) : (part t xs o).run Try.prog w = .ok v w := by
  unfold part
  rw [Sem.run_bind, ht]
  simp only [Result.andThen_ok, Bool.false_eq_true, if_false, h, Sem.run_pure]
theorem eq_frac (d : Nat) (w : World) (j j' : IntKind) (a b c e : Int) : (Op.equalIn (d + 2) 30 (.agg #[.int j a, .int j' b]) (.agg #[.int j c, .int j' e])).run Try.prog w = .ok ((a == c) && (b == e)) w := by
  have hi : ∀ w, (isAgg 2).run Try.prog w = .ok false w := fun w => prun_none (by kernel_rfl) w
  rw [run_equalIn_agg w (d + 1) 30 _ _ (by kernel_rfl) (by kernel_rfl)]
  have hf : (Program.fieldsOf Try.prog 30).toList = (match Try.prog.underlying 30 with | some (.struct fs) => fs.toList | _ => []) := by kernel_rfl
  rw [hf]
  rw [Try.underlying30]
  simp [Op.eqFields, run_part1 _ hi, run_equalIn_int _ _ _ _ _ _ _ Try.underlying2, Result.andThen]
  by_cases h1 : a = c <;> by_cases h2 : b = e <;> simp [h1, h2]
abbrev eqF : List (TypeId × Nat) := [(30, 2)]
theorem eqokF : EqOk Try.prog eqF := by
  intro t m n r h x y w
  unfold eqF eqOf at h
  split at h
  · rename_i hb
    rw [Bool.and_eq_true] at hb
    obtain ⟨j, j', a, b, c, d, rfl, rfl, rfl⟩ := eqCells2 (Nat.eq_of_beq_eq_true hb.2) h
    obtain rfl := Nat.eq_of_beq_eq_true hb.1
    have hg : Program.eqGuardType Try.prog (Program.depth Try.prog) 30 = false := by kernel_rfl
    refine ⟨?_, ?_⟩
    · rw [Sem.run_bind, run_eqGuard_agg w .eql _ x y _ _ hg]
      simp only [Result.andThen_ok, run_eql_struct, eq_frac 9998]
    · rw [Sem.run_bind, run_eqGuard_agg w .neq _ x y _ _ hg]
      simp only [Result.andThen_ok, run_neq_struct, eq_frac 9998]
  · simp [eqOf] at h
abbrev frequSp : Sp := .rf SS (fun x (l : List Q × List Q) E => RowAt Q.cells 2 x.1 l.1 E ∧ RowAt Q.cells 2 x.2.1 l.2 E) (fun _ l => .bool (decide (l.1 = l.2)))
set_option maxHeartbeats 2000000 in

abbrev SCC : ArgL (Scl × Scl × Unit) := .cons sclA (.cons sclA .nil)
abbrev sameCSp : Sp := .rf SCC (fun x (l : List Q × List Q) E => FracsAt x.1.errs l.1 E ∧ FracsAt x.2.1.errs l.2 E) (fun x l => .bool (decide (x.1.unit = x.2.1.unit ∧ l.1 = l.2)))

end Go.Proofs.Ytjibkphhlflpeaa
