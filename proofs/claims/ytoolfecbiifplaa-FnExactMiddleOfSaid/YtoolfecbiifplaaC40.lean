/- The sort with a comparison, at fractions: what the kit's contract asks of the comparison; condition: valid fractions. -/
import Derived.Test.YtoolfecbiifplaaAb
import Derived.Test.YtoolfecbiifplaaC1
import Derived.Test.YtoolfecbiifplaaC2
import Derived.Test.YtoolfecbiifplaaC3
import Derived.Test.YtoolfecbiifplaaCN
import Derived.Test.YtoolfecbiifplaaCS
import Derived.Test.YtoolfecbiifplaaProg
set_option linter.unusedVariables false
set_option linter.unusedSimpArgs false
namespace Go.Proofs.Ytoolfecbiifplaa
open Ab

open Go.Shelf Go.RowKit Go.Lib Go.Sort
abbrev E0 : Ext := ⟨fun _ => none, fun _ => none⟩
theorem Rel.zero (w : World) : Rel w [] E0 [] [] E0 w :=
  ⟨fun _ _ _ h => h, rfl, rfl, ⟨rfl, Nat.le_refl _⟩, Nat.le_refl _, fun _ _ _ _ => rfl, ⟨[], rfl, by simp⟩, by simp, rfl, fun i b c hi => by simp at hi, fun a v ha => (by cases ha), fun a v ha => (by cases ha), fun a v ha _ _ => ha, fun b p hb => by cases hb⟩
/-- What has turned nothing has gone on drawing and has laid blocks. -/
theorem Rel.grown {w w' : World} {β : List Nat} {m : Mem} {E : Ext} (h : Rel w [] E0 β m E w') : ∃ q os, w' = grow (w.drewN q) os := by
  refine ⟨w'.drawn - w.drawn, w'.heap.extract w.heap.size w'.heap.size, ?_⟩
  have h1 := h.os
  have h2 := h.tape
  obtain ⟨h3, h4⟩ := h.output
  have h5 := h.size
  have h6 : w'.heap = w.heap ++ w'.heap.extract w.heap.size w'.heap.size := by
    apply Array.ext_getElem?
    intro i
    by_cases hi : i < w.heap.size
    · rw [h.old i hi (by simp) rfl, Array.getElem?_append_left hi]
    · rw [Array.getElem?_append_right (by omega)]
      by_cases hj : i < w'.heap.size
      · rw [Array.getElem?_extract, if_pos (by omega)]
        congr 1
        omega
      · rw [Array.getElem?_eq_none (by omega), Array.getElem?_eq_none (by simp; omega)]
  obtain ⟨hp, tp, dr, os, out⟩ := w
  obtain ⟨hp', tp', dr', os', out'⟩ := w'
  dsimp only at h1 h2 h3 h4 h5 h6
  subst h1 h2 h3
  unfold grow World.drewN
  dsimp only
  rw [← h6, Nat.add_sub_cancel' h4]
abbrev VQ : Type := {q : Q // okQ q = true}
instance : Inhabited VQ := ⟨⟨⟨0, 1⟩, by decide⟩⟩
def VQ.cells (x : VQ) : List Value := x.1.cells
def vcmp (x y : VQ) : Int := cmpQ x.1 y.1
set_option maxRecDepth 100000 in
theorem asc_ok : Sp.ok Try.prog 92 cmpSp := by
  refine Sp.pf_ok (T := ⟨[(42, cmpSp)], []⟩) follows eqok0 ⟨enters Try.func42 rfl rfl, cmp_ok, trivial⟩ [] Try.func92 rfl (by kernel_rfl) _ _ _ fun x E hp => ?_
  obtain ⟨⟨a, b⟩, ⟨c, d⟩, u⟩ := x
  (repeat' ((conv => whnf); (first | with_reducible apply And.intro | (with_reducible intro hh; first | (with_reducible have hx := NewRow.self hh; clear hx) | (with_reducible have hrow := Made.row hh; have hle := Made.le hh; have hmade := hh; clear hh) | (with_reducible have hrow := Fresh.rowS hh; have hle := Fresh.leS hh; have hfr := hh; clear hh) | (with_reducible have hx := Ext.self hh; clear hx) | (with_reducible have hx := SlV.self hh; clear hx) | (with_reducible have hx := Value.self hh; clear hx) | with_reducible cases hh | skip) | (with_reducible apply AllEq.mk; intro yy hq) | with_reducible apply trivial | with_reducible apply Exists.intro () | (with_reducible apply ex_side; (first | with_reducible assumption | with_reducible apply fracs1 | with_reducible apply fracs2 | with_reducible apply fracs3 | with_reducible apply spans1 | with_reducible apply spans2 | (with_reducible apply NewRow.keep; with_reducible assumption) | (with_reducible apply RowAt.keep; with_reducible assumption) | assumption | (focus ((repeat (first | with_reducible assumption | (with_reducible apply RowAt.le; rotate_left; with_reducible assumption) | (with_reducible apply RowB.le; rotate_left; with_reducible assumption))); done)))) | (with_reducible apply ex_side (a := (_, _)); (focus (with_reducible apply And.intro <;> (focus ((repeat (first | with_reducible assumption | (with_reducible apply RowAt.le; rotate_left; with_reducible assumption) | (with_reducible apply RowB.le; rotate_left; with_reducible assumption))); done))))))); (all_goals (conv => whnf)))
  (all_goals (try dsimp only [Q.eta, Sn.eta, SlV.eta] at *)); (all_goals (first | exact Side.mk trivial | with_reducible exact Side.mk rfl | exact Side.mk (fun _ _ h => h) | exact Side.mk (Made.le (by assumption)) | refine Side.mk ?_ | refine Don.mk ?_ | skip))
  all_goals first | exact hp | rfl
theorem asc_runs (x y : VQ) (W : World) : Calls Try.prog 92 #[.agg x.cells.toArray, .agg y.cells.toArray] W fun e w' => e = .returned (.int .i64 (vcmp x y)) ∧ ∃ q os', w' = grow (W.drewN q) os' := by
  obtain ⟨⟨a, b⟩, hx⟩ := x
  obtain ⟨⟨c, d⟩, hy⟩ := y
  refine (asc_ok [.v (.agg #[.int .i64 a, .int .i64 b]), .v (.agg #[.int .i64 c, .int .i64 d])] [] E0 (fun r m' E' => r = .v (.int .i64 (cmpQ ⟨a, b⟩ ⟨c, d⟩)) ∧ E' = E0) ?_ W [] _ (Rel.zero W) rfl ?_).mono ?_
  · exact ⟨Side.mk ⟨hx, hy⟩, rfl, rfl⟩
  · intro i z hz
    match i, hz with
    | 0, hz => cases hz; exact ⟨_, rfl, rfl⟩
    | 1, hz => cases hz; exact ⟨_, rfl, rfl⟩
  · rintro e w' ⟨r, m', E', β', z, rfl, hc, hr, rfl, rfl⟩
    have hz : z = _ := hc
    subst hz
    exact ⟨rfl, Rel.grown hr⟩
theorem asc_lays (blk off size : Nat) (w : World) : CmpLays Try.prog 92 #[] VQ.cells 2 vcmp blk off size w := fun _ _ _ _ x y => asc_runs x y _
theorem lt_cross {a b : Q} : cmpQ a b < 0 ↔ a.p * b.q < b.p * a.q := by
  unfold cmpQ
  split
  · omega
  · split <;> omega
theorem le_of_mul {a b c : Int} (hc : 0 < c) (h : a * c ≤ b * c) : a ≤ b := Int.le_of_mul_le_mul_right h hc
theorem lt_of_mul {a b c : Int} (hc : 0 < c) (h : a * c < b * c) : a < b := Int.lt_of_mul_lt_mul_right h (Int.le_of_lt hc)
theorem cross_trans {p1 q1 p2 q2 p3 q3 : Int} (h1 : 0 < q1) (h2 : 0 < q2) (h3 : 0 < q3) (h : p1 * q2 < p2 * q1) (k : p2 * q3 < p3 * q2) : p1 * q3 < p3 * q1 := by
  refine lt_of_mul h2 ?_
  have e1 : p1 * q3 * q2 = p1 * q2 * q3 := by rw [Int.mul_assoc, Int.mul_comm q3, ← Int.mul_assoc]
  have e2 : p2 * q1 * q3 = p2 * q3 * q1 := by rw [Int.mul_assoc, Int.mul_comm q1, ← Int.mul_assoc]
  have e3 : p3 * q2 * q1 = p3 * q1 * q2 := by rw [Int.mul_assoc, Int.mul_comm q2, ← Int.mul_assoc]
  have f1 := Int.mul_lt_mul_of_pos_right h h3
  have f2 := Int.mul_lt_mul_of_pos_right k h1
  omega
theorem cross_le {p1 q1 p2 q2 p3 q3 : Int} (h1 : 0 < q1) (h2 : 0 < q2) (h3 : 0 < q3) (h : p2 * q1 ≤ p1 * q2) (k : p3 * q2 ≤ p2 * q3) : p3 * q1 ≤ p1 * q3 := by
  refine le_of_mul h2 ?_
  have e1 : p1 * q3 * q2 = p1 * q2 * q3 := by rw [Int.mul_assoc, Int.mul_comm q3, ← Int.mul_assoc]
  have e2 : p2 * q1 * q3 = p2 * q3 * q1 := by rw [Int.mul_assoc, Int.mul_comm q1, ← Int.mul_assoc]
  have e3 : p3 * q2 * q1 = p3 * q1 * q2 := by rw [Int.mul_assoc, Int.mul_comm q2, ← Int.mul_assoc]
  have f1 := Int.mul_le_mul_of_nonneg_right h (Int.le_of_lt h3)
  have f2 := Int.mul_le_mul_of_nonneg_right k (Int.le_of_lt h1)
  omega
theorem vq_pos (x : VQ) : 0 < x.1.q := by have := (okQ_iff.1 x.2).1; omega
theorem vlt (x y : VQ) : ltOf vcmp x y = decide (x.1.p * y.1.q < y.1.p * x.1.q) := by
  unfold ltOf vcmp
  congr 1
  exact propext lt_cross
theorem vswo : SWO (ltOf vcmp) := by
  refine ⟨fun x => ?_, fun x y z h k => ?_, fun x y z h k => ?_⟩
  · rw [vlt]; exact decide_eq_false (Int.lt_irrefl _)
  · rw [vlt] at *
    exact decide_eq_true (cross_trans (vq_pos x) (vq_pos y) (vq_pos z) (of_decide_eq_true h) (of_decide_eq_true k))
  · rw [vlt] at *
    exact decide_eq_false (Int.not_lt.2 (cross_le (vq_pos x) (vq_pos y) (vq_pos z) (Int.not_lt.1 (of_decide_eq_false h)) (Int.not_lt.1 (of_decide_eq_false k))))

end Go.Proofs.Ytoolfecbiifplaa
