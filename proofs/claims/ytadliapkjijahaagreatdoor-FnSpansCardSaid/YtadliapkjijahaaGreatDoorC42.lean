/- Contracts of the functions that copy and sort a list of fractions; conditions: valid fractions, at least one. -/
import Derived.Test.YtadliapkjijahaaGreatDoorAb
import Derived.Test.YtadliapkjijahaaGreatDoorC1
import Derived.Test.YtadliapkjijahaaGreatDoorC2
import Derived.Test.YtadliapkjijahaaGreatDoorC3
import Derived.Test.YtadliapkjijahaaGreatDoorC4
import Derived.Test.YtadliapkjijahaaGreatDoorC10
import Derived.Test.YtadliapkjijahaaGreatDoorC12
import Derived.Test.YtadliapkjijahaaGreatDoorC25
import Derived.Test.YtadliapkjijahaaGreatDoorC30
import Derived.Test.YtadliapkjijahaaGreatDoorCK
import Derived.Test.YtadliapkjijahaaGreatDoorCG
import Derived.Test.YtadliapkjijahaaGreatDoorCN
import Derived.Test.YtadliapkjijahaaGreatDoorCS
import Derived.Test.YtadliapkjijahaaGreatDoorC40
import Derived.Test.YtadliapkjijahaaGreatDoorC41
import Derived.Test.YtadliapkjijahaaGreatDoorProg
set_option linter.unusedVariables false
set_option linter.unusedSimpArgs false
namespace Go.Proofs.YtadliapkjijahaaGreatDoor
open Ab

abbrev cloneSp : Sp := .nf FS (fun x (l : List Q) E => FracsAt x.1 l E ∧ 1 ≤ l.length ∧ l.length ≤ 1048576) (fun _ _ (y : SlV) => SlV.v y) (fun _ l y E E' => Side (Grow 25 2 Q.cells E y l E'))
set_option maxRecDepth 100000 in
theorem clone_ok : Sp.ok Tryz.prog 99 cloneSp := by
  refine Sp.nf_ok (T := ⟨[], []⟩) follows eqok0 trivial [] Tryz.func99 rfl (by kernel_rfl) _ _ _ _ fun x l E hp => ?_
  obtain ⟨⟨sa, n, c⟩, u⟩ := x
  obtain ⟨hp, h1, h2⟩ := hp
  dsimp only at hp
  cases sa with
  | none => have := hp.2.2.1 rfl; subst this; simp at h1
  | some ad =>
    (repeat' ((conv => whnf); (first | with_reducible apply And.intro | (with_reducible intro hh; first | (with_reducible have hx := NewRow.self hh; clear hx) | (with_reducible have hrow := Made.row hh; have hle := Made.le hh; have hmade := hh; clear hh) | (with_reducible have hrow := Fresh.rowS hh; have hle := Fresh.leS hh; have hfr := hh; clear hh) | (with_reducible have hx := Ext.self hh; clear hx) | (with_reducible have hx := SlV.self hh; clear hx) | (with_reducible have hx := Value.self hh; clear hx) | with_reducible cases hh | skip) | (with_reducible apply AllEq.mk; intro yy hq) | with_reducible apply trivial | with_reducible apply Exists.intro () | (with_reducible apply ex_side; (first | with_reducible assumption | with_reducible apply fracs1 | with_reducible apply fracs2 | with_reducible apply fracs3 | with_reducible apply spans1 | with_reducible apply spans2 | (with_reducible apply NewRow.keep; with_reducible assumption) | (with_reducible apply RowAt.keep; with_reducible assumption) | assumption | (focus ((repeat (first | with_reducible assumption | (with_reducible apply RowAt.le; rotate_left; with_reducible assumption) | (with_reducible apply RowB.le; rotate_left; with_reducible assumption))); done)))) | (with_reducible apply ex_side (a := (_, _)); (focus (with_reducible apply And.intro <;> (focus ((repeat (first | with_reducible assumption | (with_reducible apply RowAt.le; rotate_left; with_reducible assumption) | (with_reducible apply RowB.le; rotate_left; with_reducible assumption))); done))))))); (all_goals (conv => whnf)))
    (all_goals (try dsimp only [Q.eta, Sn.eta, SlV.eta] at *)); (all_goals (first | exact Side.mk trivial | with_reducible exact Side.mk rfl | exact Side.mk (fun _ _ h => h) | exact Side.mk (Made.le (by assumption)) | refine Side.mk ?_ | refine Don.mk ?_ | skip))
    have hn := hp.1
    dsimp only at hn
    have hg := Grow.fresh0 (c := 2) (en := Q.cells) hh
    refine ⟨(_, l.flatMap Q.cells), Side.mk ⟨hg.own, cells_row (RowAt.le hp hh.le), cells_ok l, by dsimp only; omega⟩, fun r E2 hpost => ?_⟩
    have hg2 := Grow.app (l2 := l) hg hpost
    rw [List.nil_append] at hg2
    (repeat' ((conv => whnf); (first | with_reducible apply And.intro | (with_reducible intro hh; first | (with_reducible have hx := NewRow.self hh; clear hx) | (with_reducible have hrow := Made.row hh; have hle := Made.le hh; have hmade := hh; clear hh) | (with_reducible have hrow := Fresh.rowS hh; have hle := Fresh.leS hh; have hfr := hh; clear hh) | (with_reducible have hx := Ext.self hh; clear hx) | (with_reducible have hx := SlV.self hh; clear hx) | (with_reducible have hx := Value.self hh; clear hx) | with_reducible cases hh | skip) | (with_reducible apply AllEq.mk; intro yy hq) | with_reducible apply trivial | with_reducible apply Exists.intro () | (with_reducible apply ex_side; (first | with_reducible assumption | with_reducible apply fracs1 | with_reducible apply fracs2 | with_reducible apply fracs3 | with_reducible apply spans1 | with_reducible apply spans2 | (with_reducible apply NewRow.keep; with_reducible assumption) | (with_reducible apply RowAt.keep; with_reducible assumption) | assumption | (focus ((repeat (first | with_reducible assumption | (with_reducible apply RowAt.le; rotate_left; with_reducible assumption) | (with_reducible apply RowB.le; rotate_left; with_reducible assumption))); done)))) | (with_reducible apply ex_side (a := (_, _)); (focus (with_reducible apply And.intro <;> (focus ((repeat (first | with_reducible assumption | (with_reducible apply RowAt.le; rotate_left; with_reducible assumption) | (with_reducible apply RowB.le; rotate_left; with_reducible assumption))); done))))))); (all_goals (conv => whnf)))
    (all_goals (try dsimp only [Q.eta, Sn.eta, SlV.eta] at *)); (all_goals (first | exact Side.mk trivial | with_reducible exact Side.mk rfl | exact Side.mk (fun _ _ h => h) | exact Side.mk (Made.le (by assumption)) | refine Side.mk ?_ | refine Don.mk ?_ | skip))
    exact ⟨r, rfl, Side.mk hg2⟩
theorem flat_val (d : List VQ) : (d.map (·.1)).flatMap Q.cells = d.flatMap VQ.cells := by
  induction d with
  | nil => rfl
  | cons x r ih => rw [List.map_cons, List.flatMap_cons, List.flatMap_cons, ih]; rfl
theorem Grow.sorted {e : TypeId} {F0 E' E2 : Ext} {o : SlV} {d : List VQ} (h : Grow 25 2 Q.cells F0 o (d.map (·.1)) E') (k : SortTo o d E' E2) : Fresh 25 2 Q.cells o ((vsort d).map (·.1)) F0 E2 := by
  have hne : ∀ a b, (∀ a', o.a = some a' → a.block ≠ a'.block) → a = b → E2 b = E' b := fun a b ha e => by rw [← e]; exact k.rest a ha
  refine ⟨OwnRow.rowAt (en := Q.cells) (c := 2) (fun _ => rfl) (by decide) (by rw [flat_val]; exact k.row), fun a v ha => ?_, fun b p hb => ?_, ?_⟩
  · rw [k.rest a fun a' ha' => (h.fresh a' ha').2 a v ha]
    exact h.le a v ha
  · obtain ⟨k1, k2⟩ := h.keep b p hb
    refine ⟨by rw [k.own]; exact k1, fun a ha => ?_⟩
    rw [k.rest a fun a' ha' e => by have := (h.fresh a' ha').1; rw [← e, ha, hb] at this; cases this]
    exact k2 a ha
  · obtain ⟨h1, h2, h3, h4⟩ := k.row
    rcases h4 with ⟨k1, k2, _⟩ | ⟨b, hb, ho, _⟩
    · exact .inl ⟨k2, k1⟩
    · obtain ⟨g1, g2⟩ := h.fresh _ hb
      exact .inr ⟨b, hb, ⟨_, ho, Nat.mul_le_mul_right _ h2⟩, g1, g2⟩
abbrev ascSp : Sp := .nf FS (fun x (d : List VQ) E => FracsAt x.1 (d.map (·.1)) E ∧ 1 ≤ d.length ∧ d.length ≤ 1048576) (fun _ _ (y : SlV) => SlV.v y) (fun _ d y E E' => Side (Fresh 25 2 Q.cells y ((vsort d).map (·.1)) E E' ∧ y.n ≤ y.c))
set_option maxRecDepth 100000 in
theorem ascend_ok : Sp.ok Tryz.prog 52 ascSp := by
  refine Sp.nf_ok (T := ⟨[(99, cloneSp), (100, sortSp)], []⟩) follows eqok0 ⟨enters Tryz.func99 rfl rfl, clone_ok, enters Tryz.func100 rfl rfl, sort_ok, trivial⟩ [] Tryz.func52 rfl (by kernel_rfl) _ _ _ _ fun x d E hp => ?_
  obtain ⟨⟨sa, n, c⟩, u⟩ := x
  obtain ⟨hp, h1, h2⟩ := hp
  dsimp only at hp
  have hR : FracsAt ⟨sa, n, c⟩ (d.map (·.1)) E ∧ 1 ≤ (d.map (·.1)).length ∧ (d.map (·.1)).length ≤ 1048576 := ⟨hp, by simpa using h1, by simpa using h2⟩
  conv => whnf
  refine ⟨d.map (·.1), Side.mk hR, fun y E1 hg => ?_⟩
  have hrow := hg.out.own
  rw [flat_val] at hrow
  (repeat' ((conv => whnf); (first | with_reducible apply And.intro | (with_reducible intro hh; first | (with_reducible have hx := NewRow.self hh; clear hx) | (with_reducible have hrow := Made.row hh; have hle := Made.le hh; have hmade := hh; clear hh) | (with_reducible have hrow := Fresh.rowS hh; have hle := Fresh.leS hh; have hfr := hh; clear hh) | (with_reducible have hx := Ext.self hh; clear hx) | (with_reducible have hx := SlV.self hh; clear hx) | (with_reducible have hx := Value.self hh; clear hx) | with_reducible cases hh | skip) | (with_reducible apply AllEq.mk; intro yy hq) | with_reducible apply trivial | with_reducible apply Exists.intro () | (with_reducible apply ex_side; (first | with_reducible assumption | with_reducible apply fracs1 | with_reducible apply fracs2 | with_reducible apply fracs3 | with_reducible apply spans1 | with_reducible apply spans2 | (with_reducible apply NewRow.keep; with_reducible assumption) | (with_reducible apply RowAt.keep; with_reducible assumption) | assumption | (focus ((repeat (first | with_reducible assumption | (with_reducible apply RowAt.le; rotate_left; with_reducible assumption) | (with_reducible apply RowB.le; rotate_left; with_reducible assumption))); done)))) | (with_reducible apply ex_side (a := (_, _)); (focus (with_reducible apply And.intro <;> (focus ((repeat (first | with_reducible assumption | (with_reducible apply RowAt.le; rotate_left; with_reducible assumption) | (with_reducible apply RowB.le; rotate_left; with_reducible assumption))); done))))))); (all_goals (conv => whnf)))
  (all_goals (try dsimp only [Q.eta, Sn.eta, SlV.eta] at *)); (all_goals (first | exact Side.mk trivial | with_reducible exact Side.mk rfl | exact Side.mk (fun _ _ h => h) | exact Side.mk (Made.le (by assumption)) | refine Side.mk ?_ | refine Don.mk ?_ | skip))
  refine ⟨d, Side.mk ⟨hrow, h1, h2⟩, fun y' E2 hs => ?_⟩
  (repeat' ((conv => whnf); (first | with_reducible apply And.intro | (with_reducible intro hh; first | (with_reducible have hx := NewRow.self hh; clear hx) | (with_reducible have hrow := Made.row hh; have hle := Made.le hh; have hmade := hh; clear hh) | (with_reducible have hrow := Fresh.rowS hh; have hle := Fresh.leS hh; have hfr := hh; clear hh) | (with_reducible have hx := Ext.self hh; clear hx) | (with_reducible have hx := SlV.self hh; clear hx) | (with_reducible have hx := Value.self hh; clear hx) | with_reducible cases hh | skip) | (with_reducible apply AllEq.mk; intro yy hq) | with_reducible apply trivial | with_reducible apply Exists.intro () | (with_reducible apply ex_side; (first | with_reducible assumption | with_reducible apply fracs1 | with_reducible apply fracs2 | with_reducible apply fracs3 | with_reducible apply spans1 | with_reducible apply spans2 | (with_reducible apply NewRow.keep; with_reducible assumption) | (with_reducible apply RowAt.keep; with_reducible assumption) | assumption | (focus ((repeat (first | with_reducible assumption | (with_reducible apply RowAt.le; rotate_left; with_reducible assumption) | (with_reducible apply RowB.le; rotate_left; with_reducible assumption))); done)))) | (with_reducible apply ex_side (a := (_, _)); (focus (with_reducible apply And.intro <;> (focus ((repeat (first | with_reducible assumption | (with_reducible apply RowAt.le; rotate_left; with_reducible assumption) | (with_reducible apply RowB.le; rotate_left; with_reducible assumption))); done))))))); (all_goals (conv => whnf)))
  (all_goals (try dsimp only [Q.eta, Sn.eta, SlV.eta] at *)); (all_goals (first | exact Side.mk trivial | with_reducible exact Side.mk rfl | exact Side.mk (fun _ _ h => h) | exact Side.mk (Made.le (by assumption)) | refine Side.mk ?_ | refine Don.mk ?_ | skip))
  exact ⟨y, rfl, Side.mk ⟨Grow.sorted (e := 25) hg.out hs.out, hg.out.own.2.1⟩⟩

end Go.Proofs.YtadliapkjijahaaGreatDoor
