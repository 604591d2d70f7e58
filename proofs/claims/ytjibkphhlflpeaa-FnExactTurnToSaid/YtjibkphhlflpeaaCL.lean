/- Contracts of the laws' own functions that turn and compare values, for all arguments; no condition. -/
import Derived.Test.YtjibkphhlflpeaaAb
import Derived.Test.YtjibkphhlflpeaaC1
import Derived.Test.YtjibkphhlflpeaaProg
set_option linter.unusedVariables false
set_option linter.unusedSimpArgs false
namespace Go.Proofs.Ytjibkphhlflpeaa
open Ab

abbrev toFracSp : Sp := .pf F1 (fun _ => True) (fun x => x.1.v)
set_option maxRecDepth 100000 in
theorem toFrac_ok : Sp.ok Try.prog 10 toFracSp := by
  refine Sp.pf_ok (T := ⟨[], []⟩) follows eqok0 trivial [] Try.func10 rfl (by kernel_rfl) _ _ _ fun x E hp => ?_
  obtain ⟨⟨p, q⟩, u⟩ := x
  (repeat' ((conv => whnf); (first | with_reducible apply And.intro | (with_reducible intro hh; first | (with_reducible have hx := NewRow.self hh; clear hx) | (with_reducible have hrow := Made.row hh; have hle := Made.le hh; have hmade := hh; clear hh) | (with_reducible have hrow := Fresh.rowS hh; have hle := Fresh.leS hh; have hfr := hh; clear hh) | (with_reducible have hx := Ext.self hh; clear hx) | (with_reducible have hx := SlV.self hh; clear hx) | (with_reducible have hx := Value.self hh; clear hx) | with_reducible cases hh | skip) | (with_reducible apply AllEq.mk; intro yy hq) | with_reducible apply trivial | with_reducible apply Exists.intro () | (with_reducible apply ex_side; (first | with_reducible assumption | with_reducible apply fracs1 | with_reducible apply fracs2 | with_reducible apply fracs3 | with_reducible apply spans1 | with_reducible apply spans2 | (with_reducible apply NewRow.keep; with_reducible assumption) | (with_reducible apply RowAt.keep; with_reducible assumption) | assumption | (focus ((repeat (first | with_reducible assumption | (with_reducible apply RowAt.le; rotate_left; with_reducible assumption) | (with_reducible apply RowB.le; rotate_left; with_reducible assumption))); done)))) | (with_reducible apply ex_side (a := (_, _)); (focus (with_reducible apply And.intro <;> (focus ((repeat (first | with_reducible assumption | (with_reducible apply RowAt.le; rotate_left; with_reducible assumption) | (with_reducible apply RowB.le; rotate_left; with_reducible assumption))); done))))))); (all_goals (conv => whnf)))
  (all_goals (try dsimp only [Q.eta, Sn.eta, SlV.eta] at *)); (all_goals (first | exact Side.mk trivial | with_reducible exact Side.mk rfl | exact Side.mk (fun _ _ h => h) | exact Side.mk (Made.le (by assumption)) | refine Side.mk ?_ | refine Don.mk ?_ | skip))
  all_goals rfl
abbrev eqFracSp : Sp := .pf F2 (fun _ => True) (fun x => .bool (decide (x.1 = x.2.1)))
set_option maxRecDepth 100000 in
theorem eqFrac_ok : Sp.ok Try.prog 26 eqFracSp := by
  refine Sp.pf_ok (T := ⟨[], []⟩) follows eqok0 trivial [] Try.func26 rfl (by kernel_rfl) _ _ _ fun x E hp => ?_
  obtain ⟨⟨a, c⟩, ⟨d, e⟩, u⟩ := x
  (repeat' ((conv => whnf); (first | with_reducible apply And.intro | (with_reducible intro hh; first | (with_reducible have hx := NewRow.self hh; clear hx) | (with_reducible have hrow := Made.row hh; have hle := Made.le hh; have hmade := hh; clear hh) | (with_reducible have hrow := Fresh.rowS hh; have hle := Fresh.leS hh; have hfr := hh; clear hh) | (with_reducible have hx := Ext.self hh; clear hx) | (with_reducible have hx := SlV.self hh; clear hx) | (with_reducible have hx := Value.self hh; clear hx) | with_reducible cases hh | skip) | (with_reducible apply AllEq.mk; intro yy hq) | with_reducible apply trivial | with_reducible apply Exists.intro () | (with_reducible apply ex_side; (first | with_reducible assumption | with_reducible apply fracs1 | with_reducible apply fracs2 | with_reducible apply fracs3 | with_reducible apply spans1 | with_reducible apply spans2 | (with_reducible apply NewRow.keep; with_reducible assumption) | (with_reducible apply RowAt.keep; with_reducible assumption) | assumption | (focus ((repeat (first | with_reducible assumption | (with_reducible apply RowAt.le; rotate_left; with_reducible assumption) | (with_reducible apply RowB.le; rotate_left; with_reducible assumption))); done)))) | (with_reducible apply ex_side (a := (_, _)); (focus (with_reducible apply And.intro <;> (focus ((repeat (first | with_reducible assumption | (with_reducible apply RowAt.le; rotate_left; with_reducible assumption) | (with_reducible apply RowB.le; rotate_left; with_reducible assumption))); done))))))); (all_goals (conv => whnf)))
  (all_goals (try dsimp only [Q.eta, Sn.eta, SlV.eta] at *)); (all_goals (first | exact Side.mk trivial | with_reducible exact Side.mk rfl | exact Side.mk (fun _ _ h => h) | exact Side.mk (Made.le (by assumption)) | refine Side.mk ?_ | refine Don.mk ?_ | skip))
  all_goals simp_all
abbrev S1 : ArgL (Sn × Unit) := .cons .span .nil
abbrev S2 : ArgL (Sn × Sn × Unit) := .cons .span (.cons .span .nil)
abbrev toSpanSp : Sp := .pf S1 (fun _ => True) (fun x => x.1.v)
abbrev eqSpanSp : Sp := .pf S2 (fun _ => True) (fun x => .bool (decide (x.1 = x.2.1)))

end Go.Proofs.Ytjibkphhlflpeaa
