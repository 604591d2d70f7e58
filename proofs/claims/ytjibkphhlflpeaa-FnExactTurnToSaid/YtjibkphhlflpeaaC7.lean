/- Contracts of both packages' functions on two spans and on lists of spans, for all arguments within the bounds that each names; no other condition. -/
import Derived.Test.YtjibkphhlflpeaaAb
import Derived.Test.YtjibkphhlflpeaaC1
import Derived.Test.YtjibkphhlflpeaaC2
import Derived.Test.YtjibkphhlflpeaaC3
import Derived.Test.YtjibkphhlflpeaaC4
import Derived.Test.YtjibkphhlflpeaaC5
import Derived.Test.YtjibkphhlflpeaaCL
import Derived.Test.YtjibkphhlflpeaaC6
import Derived.Test.YtjibkphhlflpeaaProg
set_option linter.unusedVariables false
set_option linter.unusedSimpArgs false
namespace Go.Proofs.Ytjibkphhlflpeaa
open Ab

def allS (l : List Sn) : Bool := l.all okS
/-! the lesser one and the greater one -/
def lesQ (a b : Q) : Q := if cmpQ a b ≤ 0 then a else b
def greQ (a b : Q) : Q := if 0 ≤ cmpQ a b then a else b
theorem cmpQ_neg (a b : Q) : cmpQ b a = -cmpQ a b := by
  unfold cmpQ
  by_cases h : a.p * b.q < b.p * a.q
  · have : ¬ b.p * a.q < a.p * b.q := by omega
    simp [h, this]
  · by_cases k : b.p * a.q < a.p * b.q <;> simp [h, k]
theorem lesQ_ok {a b : Q} (ha : okQ a = true) (hb : okQ b = true) : okQ (lesQ a b) = true := by unfold lesQ; split <;> assumption
theorem greQ_ok {a b : Q} (ha : okQ a = true) (hb : okQ b = true) : okQ (greQ a b) = true := by unfold greQ; split <;> assumption
abbrev lesSp : Sp := .pf F2 F2ok (fun x => (lesQ x.1 x.2.1).v)
abbrev greSp : Sp := .pf F2 F2ok (fun x => (greQ x.1 x.2.1).v)
set_option maxRecDepth 100000 in
theorem les_ok : Sp.ok Try.prog 47 lesSp := by
  refine Sp.pf_ok (T := ⟨[(24, cmpSp)], []⟩) follows eqok0 ⟨enters Try.func24 rfl rfl, cmp_ok, trivial⟩ [] Try.func47 rfl (by kernel_rfl) _ _ _ fun x E hp => ?_
  obtain ⟨⟨a, c⟩, ⟨d, e⟩, u⟩ := x
  have hn := cmpQ_neg ⟨a, c⟩ ⟨d, e⟩
  (repeat' ((conv => whnf); (first | with_reducible apply And.intro | (with_reducible intro hh; first | (with_reducible have hx := NewRow.self hh; clear hx) | (with_reducible have hrow := Made.row hh; have hle := Made.le hh; have hmade := hh; clear hh) | (with_reducible have hrow := Fresh.rowS hh; have hle := Fresh.leS hh; have hfr := hh; clear hh) | (with_reducible have hx := Ext.self hh; clear hx) | (with_reducible have hx := SlV.self hh; clear hx) | (with_reducible have hx := Value.self hh; clear hx) | with_reducible cases hh | skip) | (with_reducible apply AllEq.mk; intro yy hq) | with_reducible apply trivial | with_reducible apply Exists.intro () | (with_reducible apply ex_side; (first | with_reducible assumption | with_reducible apply fracs1 | with_reducible apply fracs2 | with_reducible apply fracs3 | with_reducible apply spans1 | with_reducible apply spans2 | (with_reducible apply NewRow.keep; with_reducible assumption) | (with_reducible apply RowAt.keep; with_reducible assumption) | assumption | (focus ((repeat (first | with_reducible assumption | (with_reducible apply RowAt.le; rotate_left; with_reducible assumption) | (with_reducible apply RowB.le; rotate_left; with_reducible assumption))); done)))) | (with_reducible apply ex_side (a := (_, _)); (focus (with_reducible apply And.intro <;> (focus ((repeat (first | with_reducible assumption | (with_reducible apply RowAt.le; rotate_left; with_reducible assumption) | (with_reducible apply RowB.le; rotate_left; with_reducible assumption))); done))))))); (all_goals (conv => whnf)))
  (all_goals (try dsimp only [Q.eta, Sn.eta, SlV.eta] at *)); (all_goals (first | exact Side.mk trivial | with_reducible exact Side.mk rfl | exact Side.mk (fun _ _ h => h) | exact Side.mk (Made.le (by assumption)) | refine Side.mk ?_ | refine Don.mk ?_ | skip))
  · first | exact hp | exact ⟨hp.2, hp.1⟩
  · have h1 := of_decide_eq_true hh
    first | (rw [lesQ, if_pos (by omega)]; rfl) | (rw [lesQ, if_neg (by omega)]; rfl) | (rw [greQ, if_pos (by omega)]; rfl) | (rw [greQ, if_neg (by omega)]; rfl)
  · have h1 := of_decide_eq_false hh
    first | (rw [lesQ, if_pos (by omega)]; rfl) | (rw [lesQ, if_neg (by omega)]; rfl) | (rw [greQ, if_pos (by omega)]; rfl) | (rw [greQ, if_neg (by omega)]; rfl)
set_option maxRecDepth 100000 in
theorem gre_ok : Sp.ok Try.prog 48 greSp := by
  refine Sp.pf_ok (T := ⟨[(24, cmpSp)], []⟩) follows eqok0 ⟨enters Try.func24 rfl rfl, cmp_ok, trivial⟩ [] Try.func48 rfl (by kernel_rfl) _ _ _ fun x E hp => ?_
  obtain ⟨⟨a, c⟩, ⟨d, e⟩, u⟩ := x
  have hn := cmpQ_neg ⟨a, c⟩ ⟨d, e⟩
  (repeat' ((conv => whnf); (first | with_reducible apply And.intro | (with_reducible intro hh; first | (with_reducible have hx := NewRow.self hh; clear hx) | (with_reducible have hrow := Made.row hh; have hle := Made.le hh; have hmade := hh; clear hh) | (with_reducible have hrow := Fresh.rowS hh; have hle := Fresh.leS hh; have hfr := hh; clear hh) | (with_reducible have hx := Ext.self hh; clear hx) | (with_reducible have hx := SlV.self hh; clear hx) | (with_reducible have hx := Value.self hh; clear hx) | with_reducible cases hh | skip) | (with_reducible apply AllEq.mk; intro yy hq) | with_reducible apply trivial | with_reducible apply Exists.intro () | (with_reducible apply ex_side; (first | with_reducible assumption | with_reducible apply fracs1 | with_reducible apply fracs2 | with_reducible apply fracs3 | with_reducible apply spans1 | with_reducible apply spans2 | (with_reducible apply NewRow.keep; with_reducible assumption) | (with_reducible apply RowAt.keep; with_reducible assumption) | assumption | (focus ((repeat (first | with_reducible assumption | (with_reducible apply RowAt.le; rotate_left; with_reducible assumption) | (with_reducible apply RowB.le; rotate_left; with_reducible assumption))); done)))) | (with_reducible apply ex_side (a := (_, _)); (focus (with_reducible apply And.intro <;> (focus ((repeat (first | with_reducible assumption | (with_reducible apply RowAt.le; rotate_left; with_reducible assumption) | (with_reducible apply RowB.le; rotate_left; with_reducible assumption))); done))))))); (all_goals (conv => whnf)))
  (all_goals (try dsimp only [Q.eta, Sn.eta, SlV.eta] at *)); (all_goals (first | exact Side.mk trivial | with_reducible exact Side.mk rfl | exact Side.mk (fun _ _ h => h) | exact Side.mk (Made.le (by assumption)) | refine Side.mk ?_ | refine Don.mk ?_ | skip))
  · first | exact hp | exact ⟨hp.2, hp.1⟩
  · have h1 := of_decide_eq_true hh
    first | (rw [lesQ, if_pos (by omega)]; rfl) | (rw [lesQ, if_neg (by omega)]; rfl) | (rw [greQ, if_pos (by omega)]; rfl) | (rw [greQ, if_neg (by omega)]; rfl)
  · have h1 := of_decide_eq_false hh
    first | (rw [lesQ, if_pos (by omega)]; rfl) | (rw [lesQ, if_neg (by omega)]; rfl) | (rw [greQ, if_pos (by omega)]; rfl) | (rw [greQ, if_neg (by omega)]; rfl)
set_option maxRecDepth 100000 in
theorem sles_ok : Sp.ok Try.prog 35 lesSp := by
  refine Sp.pf_ok (T := ⟨[(21, cmpSp)], []⟩) follows eqok0 ⟨enters Try.func21 rfl rfl, spcmp_ok, trivial⟩ [] Try.func35 rfl (by kernel_rfl) _ _ _ fun x E hp => ?_
  obtain ⟨⟨a, c⟩, ⟨d, e⟩, u⟩ := x
  have hn := cmpQ_neg ⟨a, c⟩ ⟨d, e⟩
  (repeat' ((conv => whnf); (first | with_reducible apply And.intro | (with_reducible intro hh; first | (with_reducible have hx := NewRow.self hh; clear hx) | (with_reducible have hrow := Made.row hh; have hle := Made.le hh; have hmade := hh; clear hh) | (with_reducible have hrow := Fresh.rowS hh; have hle := Fresh.leS hh; have hfr := hh; clear hh) | (with_reducible have hx := Ext.self hh; clear hx) | (with_reducible have hx := SlV.self hh; clear hx) | (with_reducible have hx := Value.self hh; clear hx) | with_reducible cases hh | skip) | (with_reducible apply AllEq.mk; intro yy hq) | with_reducible apply trivial | with_reducible apply Exists.intro () | (with_reducible apply ex_side; (first | with_reducible assumption | with_reducible apply fracs1 | with_reducible apply fracs2 | with_reducible apply fracs3 | with_reducible apply spans1 | with_reducible apply spans2 | (with_reducible apply NewRow.keep; with_reducible assumption) | (with_reducible apply RowAt.keep; with_reducible assumption) | assumption | (focus ((repeat (first | with_reducible assumption | (with_reducible apply RowAt.le; rotate_left; with_reducible assumption) | (with_reducible apply RowB.le; rotate_left; with_reducible assumption))); done)))) | (with_reducible apply ex_side (a := (_, _)); (focus (with_reducible apply And.intro <;> (focus ((repeat (first | with_reducible assumption | (with_reducible apply RowAt.le; rotate_left; with_reducible assumption) | (with_reducible apply RowB.le; rotate_left; with_reducible assumption))); done))))))); (all_goals (conv => whnf)))
  (all_goals (try dsimp only [Q.eta, Sn.eta, SlV.eta] at *)); (all_goals (first | exact Side.mk trivial | with_reducible exact Side.mk rfl | exact Side.mk (fun _ _ h => h) | exact Side.mk (Made.le (by assumption)) | refine Side.mk ?_ | refine Don.mk ?_ | skip))
  · first | exact hp | exact ⟨hp.2, hp.1⟩
  · have h1 := of_decide_eq_true hh
    first | (rw [lesQ, if_pos (by omega)]; rfl) | (rw [lesQ, if_neg (by omega)]; rfl) | (rw [greQ, if_pos (by omega)]; rfl) | (rw [greQ, if_neg (by omega)]; rfl)
  · have h1 := of_decide_eq_false hh
    first | (rw [lesQ, if_pos (by omega)]; rfl) | (rw [lesQ, if_neg (by omega)]; rfl) | (rw [greQ, if_pos (by omega)]; rfl) | (rw [greQ, if_neg (by omega)]; rfl)
set_option maxRecDepth 100000 in
theorem sgre_ok : Sp.ok Try.prog 36 greSp := by
  refine Sp.pf_ok (T := ⟨[(21, cmpSp)], []⟩) follows eqok0 ⟨enters Try.func21 rfl rfl, spcmp_ok, trivial⟩ [] Try.func36 rfl (by kernel_rfl) _ _ _ fun x E hp => ?_
  obtain ⟨⟨a, c⟩, ⟨d, e⟩, u⟩ := x
  have hn := cmpQ_neg ⟨a, c⟩ ⟨d, e⟩
  (repeat' ((conv => whnf); (first | with_reducible apply And.intro | (with_reducible intro hh; first | (with_reducible have hx := NewRow.self hh; clear hx) | (with_reducible have hrow := Made.row hh; have hle := Made.le hh; have hmade := hh; clear hh) | (with_reducible have hrow := Fresh.rowS hh; have hle := Fresh.leS hh; have hfr := hh; clear hh) | (with_reducible have hx := Ext.self hh; clear hx) | (with_reducible have hx := SlV.self hh; clear hx) | (with_reducible have hx := Value.self hh; clear hx) | with_reducible cases hh | skip) | (with_reducible apply AllEq.mk; intro yy hq) | with_reducible apply trivial | with_reducible apply Exists.intro () | (with_reducible apply ex_side; (first | with_reducible assumption | with_reducible apply fracs1 | with_reducible apply fracs2 | with_reducible apply fracs3 | with_reducible apply spans1 | with_reducible apply spans2 | (with_reducible apply NewRow.keep; with_reducible assumption) | (with_reducible apply RowAt.keep; with_reducible assumption) | assumption | (focus ((repeat (first | with_reducible assumption | (with_reducible apply RowAt.le; rotate_left; with_reducible assumption) | (with_reducible apply RowB.le; rotate_left; with_reducible assumption))); done)))) | (with_reducible apply ex_side (a := (_, _)); (focus (with_reducible apply And.intro <;> (focus ((repeat (first | with_reducible assumption | (with_reducible apply RowAt.le; rotate_left; with_reducible assumption) | (with_reducible apply RowB.le; rotate_left; with_reducible assumption))); done))))))); (all_goals (conv => whnf)))
  (all_goals (try dsimp only [Q.eta, Sn.eta, SlV.eta] at *)); (all_goals (first | exact Side.mk trivial | with_reducible exact Side.mk rfl | exact Side.mk (fun _ _ h => h) | exact Side.mk (Made.le (by assumption)) | refine Side.mk ?_ | refine Don.mk ?_ | skip))
  · first | exact hp | exact ⟨hp.2, hp.1⟩
  · have h1 := of_decide_eq_true hh
    first | (rw [lesQ, if_pos (by omega)]; rfl) | (rw [lesQ, if_neg (by omega)]; rfl) | (rw [greQ, if_pos (by omega)]; rfl) | (rw [greQ, if_neg (by omega)]; rfl)
  · have h1 := of_decide_eq_false hh
    first | (rw [lesQ, if_pos (by omega)]; rfl) | (rw [lesQ, if_neg (by omega)]; rfl) | (rw [greQ, if_pos (by omega)]; rfl) | (rw [greQ, if_neg (by omega)]; rfl)

end Go.Proofs.Ytjibkphhlflpeaa
