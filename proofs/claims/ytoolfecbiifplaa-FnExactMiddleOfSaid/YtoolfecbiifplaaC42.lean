/- Contracts of the functions that copy and sort a list of fractions; conditions: valid fractions, at least one. -/
import Derived.Test.YtoolfecbiifplaaAb
import Derived.Test.YtoolfecbiifplaaC1
import Derived.Test.YtoolfecbiifplaaC2
import Derived.Test.YtoolfecbiifplaaC3
import Derived.Test.YtoolfecbiifplaaC4
import Derived.Test.YtoolfecbiifplaaC10
import Derived.Test.YtoolfecbiifplaaC12
import Derived.Test.YtoolfecbiifplaaC25
import Derived.Test.YtoolfecbiifplaaC30
import Derived.Test.YtoolfecbiifplaaCN
import Derived.Test.YtoolfecbiifplaaCS
import Derived.Test.YtoolfecbiifplaaC40
import Derived.Test.YtoolfecbiifplaaC41
import Derived.Test.YtoolfecbiifplaaProg
set_option linter.unusedVariables false
set_option linter.unusedSimpArgs false
namespace Go.Proofs.Ytoolfecbiifplaa
open Ab

theorem Grow.app {α : Type} {e : TypeId} {c : Nat} {en : α → List Value} {F0 E' E2 : Ext} {o o' x : SlV} {l l2 : List α} (h : Grow e c en F0 o l E') (hp : AppPost E' e c o x (l.flatMap en, l2.flatMap en) o' E2) : Grow e c en F0 o' (l ++ l2) E2 := by
  obtain ⟨h1, h2, h3, h4⟩ := h
  refine ⟨by rw [List.flatMap_append]; exact hp.own, Ext.le_trans h2 hp.le, fun b p hb => ?_, fun a ha => ?_⟩
  · obtain ⟨k1, k2⟩ := h3 b p hb
    obtain ⟨k4, k5⟩ := hp.other b p (fun a ha e => by have := (h4 a ha).1; rw [e, hb] at this; cases this) k1
    exact ⟨k4, fun a ha => by rw [k5 a ha, k2 a ha]⟩
  · rcases hp.fresh a ha with k1 | ⟨k1, k2⟩
    · exact h4 a k1
    · refine ⟨?_, fun a' v hv => k1 a' v (h2 _ _ hv)⟩
      cases ho : F0.own a.block with
      | none => rfl
      | some p =>
        have k3 := (h3 _ p ho).1
        rw [k3] at k2
        cases k2
theorem Grow.fresh0 {α : Type} {e : TypeId} {c : Nat} {en : α → List Value} {E : Ext} (r : NewRow E [] e) : Grow e c en E ⟨some ⟨r.b, 0, none⟩, 0, 0⟩ [] r.to :=
  ⟨own_empty r, r.le, fun b p hb => ⟨by rw [new_own' r (new_ne r hb)]; exact hb, fun a ha => new_at r (by rw [ha]; exact new_ne r hb)⟩, fun a ha => by cases ha; exact ⟨r.fresho, r.fresh⟩⟩
theorem cells_row {s : SlV} {l : List Q} {E : Ext} (h : FracsAt s l E) : RowCells E s 2 (l.flatMap Q.cells) := by
  have hl : (l.flatMap Q.cells).length = l.length * 2 := by
    clear h
    induction l with
    | nil => rfl
    | cons x r ih => rw [List.flatMap_cons, List.length_append, ih, List.length_cons]; show 2 + _ = _; omega
  refine ⟨by rw [hl, h.1], fun hn => by rw [h.1, h.2.2.1 hn]; rfl, fun a ha j v hj => ?_⟩
  have hlt : j < l.length * 2 := by rw [← hl]; exact (List.getElem?_eq_some_iff.1 hj).1
  have h1 : l[j / 2]? = some l[j / 2] := List.getElem?_eq_getElem (by omega)
  have hc : (l[j / 2].cells)[j % 2]? = some v := by
    have h2 : ∃ u, (l[j / 2].cells)[j % 2]? = some u := ⟨_, List.getElem?_eq_getElem (by show j % 2 < 2; omega)⟩
    obtain ⟨u, h2⟩ := h2
    have h3 := flat_at (enc := Q.cells) (c := 2) (fun _ => rfl) h1 h2
    rw [show j / 2 * 2 + j % 2 = j by omega, hj] at h3
    cases h3
    exact h2
  have h4 := h.2.2.2 a ha (j / 2) _ h1 (j % 2) v hc
  rw [Go.Deep.add_add, show j / 2 * 2 + j % 2 = j by omega] at h4
  exact h4
theorem cells_ok (l : List Q) : ∀ u ∈ l.flatMap Q.cells, cellOk u = true := by
  intro u hu
  obtain ⟨x, _, hu⟩ := List.mem_flatMap.1 hu
  simp [Q.cells] at hu
  rcases hu with rfl | rfl <;> rfl
abbrev cloneSp : Sp := .nf FS (fun x (l : List Q) E => FracsAt x.1 l E ∧ 1 ≤ l.length ∧ l.length ≤ 1048576) (fun _ _ (y : SlV) => SlV.v y) (fun _ l y E E' => Side (Grow 25 2 Q.cells E y l E'))
set_option maxRecDepth 100000 in
theorem clone_ok : Sp.ok Try.prog 90 cloneSp := by
  refine Sp.nf_ok (T := ⟨[], []⟩) follows eqok0 trivial [] Try.func90 rfl (by kernel_rfl) _ _ _ _ fun x l E hp => ?_
  obtain ⟨⟨sa, n, c⟩, u⟩ := x
  obtain ⟨hp, h1, h2⟩ := hp
  dsimp only at hp
  cases sa with
  | none => have := hp.2.2.1 rfl; subst this; simp at h1
  | some ad =>
    (repeat' ((conv => whnf); (first | with_reducible apply And.intro | (with_reducible intro hh; first | (with_reducible have hx := NewRow.self hh; clear hx) | (with_reducible have hrow := Made.row hh; have hle := Made.le hh; have hmade := hh; clear hh) | (with_reducible have hrow := Fresh.rowS hh; have hle := Fresh.leS hh; have hfr := hh; clear hh) | (with_reducible have hx := Ext.self hh; clear hx) | (with_reducible have hx := SlV.self hh; clear hx) | (with_reducible have hx := Value.self hh; clear hx) | with_reducible cases hh | skip) | (with_reducible apply AllEq.mk; intro yy hq) | with_reducible apply trivial | with_reducible apply Exists.intro () | (with_reducible apply ex_side; (first | with_reducible assumption | with_reducible apply fracs1 | with_reducible apply fracs2 | with_reducible apply fracs3 | with_reducible apply spans1 | with_reducible apply spans2 | (with_reducible apply NewRow.keep; with_reducible assumption) | (with_reducible apply RowAt.keep; with_reducible assumption) | assumption | (focus ((repeat (first | with_reducible assumption | (with_reducible apply RowAt.le; rotate_left; with_reducible assumption) | (with_reducible apply RowB.le; rotate_left; with_reducible assumption))); done)))) | (with_reducible apply ex_side (a := (_, _)); (focus (with_reducible apply And.intro <;> (focus ((repeat (first | with_reducible assumption | (with_reducible apply RowAt.le; rotate_left; with_reducible assumption) | (with_reducible apply RowB.le; rotate_left; with_reducible assumption))); done))))))); (all_goals (conv => whnf)))
    (all_goals (try dsimp only [Q.eta, Sn.eta, SlV.eta] at *)); (all_goals (first | exact Side.mk trivial | with_reducible exact Side.mk rfl | exact Side.mk (fun _ _ h => h) | exact Side.mk (Made.le (by assumption)) | refine Side.mk ?_ | refine Don.mk ?_ | skip))
    have hn := hp.1
    dsimp only at hn
    have hg := Grow.fresh0 (c := 2) (en := Q.cells) hh
    refine ⟨(_, l.flatMap Q.cells), Side.mk ⟨hg.own, cells_row (RowAt.le hp hh.le), cells_ok l, by dsimp only; omega⟩, fun r E2 hpost => ?_⟩
    have hg2 := Grow.app (l2 := l) hg hpost
    rw [List.nil_append] at hg2
    (repeat' ((conv => whnf); (first | with_reducible apply And.intro | (with_reducible intro hh; first | (with_reducible have hx := NewRow.self hh; clear hx) | (with_reducible have hrow := Made.row hh; have hle := Made.le hh; have hmade := hh; clear hh) | (with_reducible have hrow := Fresh.rowS hh; have hle := Fresh.leS hh; have hfr := hh; clear hh) | (with_reducible have hx := Ext.self hh; clear hx) | (with_reducible have hx := SlV.self hh; clear hx) | (with_reducible have hx := Value.self hh; clear hx) | with_reducible cases hh | skip) | (with_reducible apply AllEq.mk; intro yy hq) | with_reducible apply trivial | with_reducible apply Exists.intro () | (with_reducible apply ex_side; (first | with_reducible assumption | with_reducible apply fracs1 | with_reducible apply fracs2 | with_reducible apply fracs3 | with_reducible apply spans1 | with_reducible apply spans2 | (with_reducible apply NewRow.keep; with_reducible assumption) | (with_reducible apply RowAt.keep; with_reducible assumption) | assumption | (focus ((repeat (first | with_reducible assumption | (with_reducible apply RowAt.le; rotate_left; with_reducible assumption) | (with_reducible apply RowB.le; rotate_left; with_reducible assumption))); done)))) | (with_reducible apply ex_side (a := (_, _)); (focus (with_reducible apply And.intro <;> (focus ((repeat (first | with_reducible assumption | (with_reducible apply RowAt.le; rotate_left; with_reducible assumption) | (with_reducible apply RowB.le; rotate_left; with_reducible assumption))); done))))))); (all_goals (conv => whnf)))
    (all_goals (try dsimp only [Q.eta, Sn.eta, SlV.eta] at *)); (all_goals (first | exact Side.mk trivial | with_reducible exact Side.mk rfl | exact Side.mk (fun _ _ h => h) | exact Side.mk (Made.le (by assumption)) | refine Side.mk ?_ | refine Don.mk ?_ | skip))
    exact ⟨r, rfl, Side.mk hg2⟩
theorem flat_val (d : List VQ) : (d.map (·.1)).flatMap Q.cells = d.flatMap VQ.cells := by
  induction d with
  | nil => rfl
  | cons x r ih => rw [List.map_cons, List.flatMap_cons, List.flatMap_cons, ih]; rfl
theorem Grow.sorted {e : TypeId} {F0 E' E2 : Ext} {o : SlV} {d : List VQ} (h : Grow 25 2 Q.cells F0 o (d.map (·.1)) E') (k : SortTo o d E' E2) : Fresh 25 2 Q.cells o ((vsort d).map (·.1)) F0 E2 := by
  have hne : ∀ a b, (∀ a', o.a = some a' → a.block ≠ a'.block) → a = b → E2 b = E' b := fun a b ha e => by rw [← e]; exact k.rest a ha
  refine ⟨OwnRow.rowAt (en := Q.cells) (c := 2) (fun _ => rfl) (by decide) (by rw [flat_val]; exact k.row), fun a v ha => ?_, fun b p hb => ?_, ?_⟩
  · rw [k.rest a fun a' ha' => (h.fresh a' ha').2 a v ha]
    exact h.le a v ha
  · obtain ⟨k1, k2⟩ := h.keep b p hb
    refine ⟨by rw [k.own]; exact k1, fun a ha => ?_⟩
    rw [k.rest a fun a' ha' e => by have := (h.fresh a' ha').1; rw [← e, ha, hb] at this; cases this]
    exact k2 a ha
  · obtain ⟨h1, h2, h3, h4⟩ := k.row
    rcases h4 with ⟨k1, k2, _⟩ | ⟨b, hb, ho, _⟩
    · exact .inl ⟨k2, k1⟩
    · obtain ⟨g1, g2⟩ := h.fresh _ hb
      exact .inr ⟨b, hb, ⟨_, ho, Nat.mul_le_mul_right _ h2⟩, g1, g2⟩
abbrev ascSp : Sp := .nf FS (fun x (d : List VQ) E => FracsAt x.1 (d.map (·.1)) E ∧ 1 ≤ d.length ∧ d.length ≤ 1048576) (fun _ _ (y : SlV) => SlV.v y) (fun _ d y E E' => Side (Fresh 25 2 Q.cells y ((vsort d).map (·.1)) E E' ∧ y.n ≤ y.c))
set_option maxRecDepth 100000 in
theorem ascend_ok : Sp.ok Try.prog 63 ascSp := by
  refine Sp.nf_ok (T := ⟨[(90, cloneSp), (91, sortSp)], []⟩) follows eqok0 ⟨enters Try.func90 rfl rfl, clone_ok, enters Try.func91 rfl rfl, sort_ok, trivial⟩ [] Try.func63 rfl (by kernel_rfl) _ _ _ _ fun x d E hp => ?_
  obtain ⟨⟨sa, n, c⟩, u⟩ := x
  obtain ⟨hp, h1, h2⟩ := hp
  dsimp only at hp
  have hR : FracsAt ⟨sa, n, c⟩ (d.map (·.1)) E ∧ 1 ≤ (d.map (·.1)).length ∧ (d.map (·.1)).length ≤ 1048576 := ⟨hp, by simpa using h1, by simpa using h2⟩
  conv => whnf
  refine ⟨d.map (·.1), Side.mk hR, fun y E1 hg => ?_⟩
  have hrow := hg.out.own
  rw [flat_val] at hrow
  (repeat' ((conv => whnf); (first | with_reducible apply And.intro | (with_reducible intro hh; first | (with_reducible have hx := NewRow.self hh; clear hx) | (with_reducible have hrow := Made.row hh; have hle := Made.le hh; have hmade := hh; clear hh) | (with_reducible have hrow := Fresh.rowS hh; have hle := Fresh.leS hh; have hfr := hh; clear hh) | (with_reducible have hx := Ext.self hh; clear hx) | (with_reducible have hx := SlV.self hh; clear hx) | (with_reducible have hx := Value.self hh; clear hx) | with_reducible cases hh | skip) | (with_reducible apply AllEq.mk; intro yy hq) | with_reducible apply trivial | with_reducible apply Exists.intro () | (with_reducible apply ex_side; (first | with_reducible assumption | with_reducible apply fracs1 | with_reducible apply fracs2 | with_reducible apply fracs3 | with_reducible apply spans1 | with_reducible apply spans2 | (with_reducible apply NewRow.keep; with_reducible assumption) | (with_reducible apply RowAt.keep; with_reducible assumption) | assumption | (focus ((repeat (first | with_reducible assumption | (with_reducible apply RowAt.le; rotate_left; with_reducible assumption) | (with_reducible apply RowB.le; rotate_left; with_reducible assumption))); done)))) | (with_reducible apply ex_side (a := (_, _)); (focus (with_reducible apply And.intro <;> (focus ((repeat (first | with_reducible assumption | (with_reducible apply RowAt.le; rotate_left; with_reducible assumption) | (with_reducible apply RowB.le; rotate_left; with_reducible assumption))); done))))))); (all_goals (conv => whnf)))
  (all_goals (try dsimp only [Q.eta, Sn.eta, SlV.eta] at *)); (all_goals (first | exact Side.mk trivial | with_reducible exact Side.mk rfl | exact Side.mk (fun _ _ h => h) | exact Side.mk (Made.le (by assumption)) | refine Side.mk ?_ | refine Don.mk ?_ | skip))
  refine ⟨d, Side.mk ⟨hrow, h1, h2⟩, fun y' E2 hs => ?_⟩
  (repeat' ((conv => whnf); (first | with_reducible apply And.intro | (with_reducible intro hh; first | (with_reducible have hx := NewRow.self hh; clear hx) | (with_reducible have hrow := Made.row hh; have hle := Made.le hh; have hmade := hh; clear hh) | (with_reducible have hrow := Fresh.rowS hh; have hle := Fresh.leS hh; have hfr := hh; clear hh) | (with_reducible have hx := Ext.self hh; clear hx) | (with_reducible have hx := SlV.self hh; clear hx) | (with_reducible have hx := Value.self hh; clear hx) | with_reducible cases hh | skip) | (with_reducible apply AllEq.mk; intro yy hq) | with_reducible apply trivial | with_reducible apply Exists.intro () | (with_reducible apply ex_side; (first | with_reducible assumption | with_reducible apply fracs1 | with_reducible apply fracs2 | with_reducible apply fracs3 | with_reducible apply spans1 | with_reducible apply spans2 | (with_reducible apply NewRow.keep; with_reducible assumption) | (with_reducible apply RowAt.keep; with_reducible assumption) | assumption | (focus ((repeat (first | with_reducible assumption | (with_reducible apply RowAt.le; rotate_left; with_reducible assumption) | (with_reducible apply RowB.le; rotate_left; with_reducible assumption))); done)))) | (with_reducible apply ex_side (a := (_, _)); (focus (with_reducible apply And.intro <;> (focus ((repeat (first | with_reducible assumption | (with_reducible apply RowAt.le; rotate_left; with_reducible assumption) | (with_reducible apply RowB.le; rotate_left; with_reducible assumption))); done))))))); (all_goals (conv => whnf)))
  (all_goals (try dsimp only [Q.eta, Sn.eta, SlV.eta] at *)); (all_goals (first | exact Side.mk trivial | with_reducible exact Side.mk rfl | exact Side.mk (fun _ _ h => h) | exact Side.mk (Made.le (by assumption)) | refine Side.mk ?_ | refine Don.mk ?_ | skip))
  exact ⟨y, rfl, Side.mk ⟨Grow.sorted (e := 25) hg.out hs.out, hg.out.own.2.1⟩⟩

end Go.Proofs.Ytoolfecbiifplaa
