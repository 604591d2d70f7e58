/- The sort with a comparison, at fractions: what the kit's contract asks of the comparison; condition: valid fractions. -/
import Derived.Test.YtadliapkjijahaaGreatDoorAb
import Derived.Test.YtadliapkjijahaaGreatDoorC1
import Derived.Test.YtadliapkjijahaaGreatDoorC2
import Derived.Test.YtadliapkjijahaaGreatDoorC3
import Derived.Test.YtadliapkjijahaaGreatDoorCN
import Derived.Test.YtadliapkjijahaaGreatDoorCS
import Derived.Test.YtadliapkjijahaaGreatDoorCD
import Derived.Test.YtadliapkjijahaaGreatDoorProg
set_option linter.unusedVariables false
set_option linter.unusedSimpArgs false
namespace Go.Proofs.YtadliapkjijahaaGreatDoor
open Ab

open Go.Shelf Go.RowKit Go.Lib Go.Sort
abbrev VQ : Type := {q : Q // okQ q = true}
instance : Inhabited VQ := ⟨⟨⟨0, 1⟩, by decide⟩⟩
def VQ.cells (x : VQ) : List Value := x.1.cells
def vcmp (x y : VQ) : Int := cmpQ x.1 y.1
theorem asc_runs (x y : VQ) (W : World) : Calls Tryz.prog 101 #[.agg x.cells.toArray, .agg y.cells.toArray] W fun e w' => e = .returned (.int .i64 (vcmp x y)) ∧ ∃ q os', w' = grow (W.drewN q) os' := by
  obtain ⟨⟨a, b⟩, hx⟩ := x
  obtain ⟨⟨c, d⟩, hy⟩ := y
  have h1 := okQ_iff.1 hx
  have h2 := okQ_iff.1 hy
  dsimp only at h1 h2
  have k1 : (a * d).natAbs ≤ 1000000000 * 1000000000 := by rw [Int.natAbs_mul]; exact Nat.mul_le_mul (by omega) (by omega)
  have k2 : (c * b).natAbs ≤ 1000000000 * 1000000000 := by rw [Int.natAbs_mul]; exact Nat.mul_le_mul (by omega) (by omega)
  exact asc1_runs a b c d (wrap_in (by omega) (by omega)) (wrap_in (by omega) (by omega)) W
theorem asc_lays (blk off size : Nat) (w : World) : CmpLays Tryz.prog 101 #[] VQ.cells 2 vcmp blk off size w := fun _ _ _ _ x y => asc_runs x y _
theorem lt_cross {a b : Q} : cmpQ a b < 0 ↔ a.p * b.q < b.p * a.q := by
  unfold cmpQ
  split
  · omega
  · split <;> omega
theorem le_of_mul {a b c : Int} (hc : 0 < c) (h : a * c ≤ b * c) : a ≤ b := Int.le_of_mul_le_mul_right h hc
theorem lt_of_mul {a b c : Int} (hc : 0 < c) (h : a * c < b * c) : a < b := Int.lt_of_mul_lt_mul_right h (Int.le_of_lt hc)
theorem cross_trans {p1 q1 p2 q2 p3 q3 : Int} (h1 : 0 < q1) (h2 : 0 < q2) (h3 : 0 < q3) (h : p1 * q2 < p2 * q1) (k : p2 * q3 < p3 * q2) : p1 * q3 < p3 * q1 := by
  refine lt_of_mul h2 ?_
  have e1 : p1 * q3 * q2 = p1 * q2 * q3 := by rw [Int.mul_assoc, Int.mul_comm q3, ← Int.mul_assoc]
  have e2 : p2 * q1 * q3 = p2 * q3 * q1 := by rw [Int.mul_assoc, Int.mul_comm q1, ← Int.mul_assoc]
  have e3 : p3 * q2 * q1 = p3 * q1 * q2 := by rw [Int.mul_assoc, Int.mul_comm q2, ← Int.mul_assoc]
  have f1 := Int.mul_lt_mul_of_pos_right h h3
  have f2 := Int.mul_lt_mul_of_pos_right k h1
  omega
theorem cross_le {p1 q1 p2 q2 p3 q3 : Int} (h1 : 0 < q1) (h2 : 0 < q2) (h3 : 0 < q3) (h : p2 * q1 ≤ p1 * q2) (k : p3 * q2 ≤ p2 * q3) : p3 * q1 ≤ p1 * q3 := by
  refine le_of_mul h2 ?_
  have e1 : p1 * q3 * q2 = p1 * q2 * q3 := by rw [Int.mul_assoc, Int.mul_comm q3, ← Int.mul_assoc]
  have e2 : p2 * q1 * q3 = p2 * q3 * q1 := by rw [Int.mul_assoc, Int.mul_comm q1, ← Int.mul_assoc]
  have e3 : p3 * q2 * q1 = p3 * q1 * q2 := by rw [Int.mul_assoc, Int.mul_comm q2, ← Int.mul_assoc]
  have f1 := Int.mul_le_mul_of_nonneg_right h (Int.le_of_lt h3)
  have f2 := Int.mul_le_mul_of_nonneg_right k (Int.le_of_lt h1)
  omega
theorem vq_pos (x : VQ) : 0 < x.1.q := by have := (okQ_iff.1 x.2).1; omega
theorem vlt (x y : VQ) : ltOf vcmp x y = decide (x.1.p * y.1.q < y.1.p * x.1.q) := by
  unfold ltOf vcmp
  congr 1
  exact propext lt_cross
theorem vswo : SWO (ltOf vcmp) := by
  refine ⟨fun x => ?_, fun x y z h k => ?_, fun x y z h k => ?_⟩
  · rw [vlt]; exact decide_eq_false (Int.lt_irrefl _)
  · rw [vlt] at *
    exact decide_eq_true (cross_trans (vq_pos x) (vq_pos y) (vq_pos z) (of_decide_eq_true h) (of_decide_eq_true k))
  · rw [vlt] at *
    exact decide_eq_false (Int.not_lt.2 (cross_le (vq_pos x) (vq_pos y) (vq_pos z) (Int.not_lt.1 (of_decide_eq_false h)) (Int.not_lt.1 (of_decide_eq_false k))))

end Go.Proofs.YtadliapkjijahaaGreatDoor
