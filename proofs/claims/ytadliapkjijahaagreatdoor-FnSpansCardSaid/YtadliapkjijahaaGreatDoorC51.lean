/- The texts of spans, in both packages; no condition. -/
import Derived.Test.YtadliapkjijahaaGreatDoorAb
import Derived.Test.YtadliapkjijahaaGreatDoorC1
import Derived.Test.YtadliapkjijahaaGreatDoorC2
import Derived.Test.YtadliapkjijahaaGreatDoorC3
import Derived.Test.YtadliapkjijahaaGreatDoorC4
import Derived.Test.YtadliapkjijahaaGreatDoorC5
import Derived.Test.YtadliapkjijahaaGreatDoorC6
import Derived.Test.YtadliapkjijahaaGreatDoorC7
import Derived.Test.YtadliapkjijahaaGreatDoorC10
import Derived.Test.YtadliapkjijahaaGreatDoorC12
import Derived.Test.YtadliapkjijahaaGreatDoorC24
import Derived.Test.YtadliapkjijahaaGreatDoorC25
import Derived.Test.YtadliapkjijahaaGreatDoorCK
import Derived.Test.YtadliapkjijahaaGreatDoorCF
import Derived.Test.YtadliapkjijahaaGreatDoorC50
import Derived.Test.YtadliapkjijahaaGreatDoorProg
set_option linter.unusedVariables false
set_option linter.unusedSimpArgs false
namespace Go.Proofs.YtadliapkjijahaaGreatDoor
open Ab

def stxt (s : Sn) : List UInt8 := if okS s then txtQ s.lo ++ (46 :: 46 :: txtQ s.hi) else []
theorem dots_text (l r : List UInt8) : strB l ++ (⟨#[46, 46]⟩ : ByteArray) ++ strB r = strB (l ++ (46 :: 46 :: r)) := by
  rw [show (⟨#[46, 46]⟩ : ByteArray) = strB [46, 46] from rfl, strB_append, strB_append, List.append_assoc]
  rfl
theorem size4646 : (⟨#[46, 46]⟩ : ByteArray).size = 2 := rfl
theorem stxt_yes {s : Sn} (h : okS s = true) : stxt s = txtQ s.lo ++ (46 :: 46 :: txtQ s.hi) := if_pos h
theorem stxt_no {s : Sn} (h : (!okS s) = true) : AV.v (Value.string ⟨#[]⟩) = AV.v (Value.string (strB (stxt s))) := by rw [stxt, if_neg (by simpa using h)]; rfl
abbrev lstSp : Sp := .hf .sn 27 .nil (fun s _ (_ : Unit) _ => okP s) (fun s _ _ => .string (strB (txtQ s.lo ++ (46 :: 46 :: txtQ s.hi))))
abbrev stxtSp : Sp := .pf S1 (fun _ => True) (fun x => .string (strB (stxt x.1)))
set_option maxRecDepth 100000 in
theorem istxt_ok : Sp.ok Tryz.prog 9 stxtSp := by
  refine Sp.pf_ok (T := ⟨[(15, spanVSp), (47, ftxtSp)], []⟩) follows eqok0 ⟨enters Tryz.func15 rfl rfl, spanV_ok, enters Tryz.func47 rfl rfl, iftxt_ok, trivial⟩ [(3, .take 0 (.take 1 (.take 4 (.take 5 (.alt 2 (.take 3 (.alt 6 (.take 7 (.take 8 (.done))) (.last))) (.last))))))] Tryz.func9 rfl (by kernel_rfl) _ _ _ fun x E hp => ?_
  obtain ⟨⟨⟨a, b⟩, ⟨c, d⟩⟩, u⟩ := x
  by_cases hok : okS ⟨⟨a, b⟩, ⟨c, d⟩⟩ = true
  · have hno : ¬ (!okS ⟨⟨a, b⟩, ⟨c, d⟩⟩) = true := by rw [hok]; decide
    obtain ⟨h1, h2⟩ := okS_p hok
    dsimp only at h1 h2
    have k1 := txtQ_len h1
    have k2 := txtQ_len h2
    have e1 := ftxt_yes h1
    have e2 := ftxt_yes h2
    rw [stxt_yes hok]
    (repeat' ((conv => whnf); (first | with_reducible apply And.intro | (with_reducible intro hh; first | (with_reducible have hx := NewRow.self hh; clear hx) | (with_reducible have hrow := Made.row hh; have hle := Made.le hh; have hmade := hh; clear hh) | (with_reducible have hrow := Fresh.rowS hh; have hle := Fresh.leS hh; have hfr := hh; clear hh) | (with_reducible have hx := Ext.self hh; clear hx) | (with_reducible have hx := SlV.self hh; clear hx) | (with_reducible have hx := Value.self hh; clear hx) | with_reducible cases hh | skip) | (with_reducible apply AllEq.mk; intro yy hq) | with_reducible apply trivial | with_reducible apply Exists.intro () | (with_reducible apply ex_side; (first | with_reducible assumption | with_reducible apply fracs1 | with_reducible apply fracs2 | with_reducible apply fracs3 | with_reducible apply spans1 | with_reducible apply spans2 | (with_reducible apply NewRow.keep; with_reducible assumption) | (with_reducible apply RowAt.keep; with_reducible assumption) | assumption | (focus ((repeat (first | with_reducible assumption | (with_reducible apply RowAt.le; rotate_left; with_reducible assumption) | (with_reducible apply RowB.le; rotate_left; with_reducible assumption))); done)))) | (with_reducible apply ex_side (a := (_, _)); (focus (with_reducible apply And.intro <;> (focus ((repeat (first | with_reducible assumption | (with_reducible apply RowAt.le; rotate_left; with_reducible assumption) | (with_reducible apply RowB.le; rotate_left; with_reducible assumption))); done))))))); (all_goals (conv => whnf)))
    (all_goals (try dsimp only [Q.eta, Sn.eta, SlV.eta] at *)); (all_goals (first | exact Side.mk trivial | with_reducible exact Side.mk rfl | exact Side.mk (fun _ _ h => h) | exact Side.mk (Made.le (by assumption)) | refine Side.mk ?_ | refine Don.mk ?_ | skip))
    all_goals first | (exfalso; exact hno (by assumption)) | (simp only [e1, e2, ba_app, strB_size, size4646]; omega) | skip
    all_goals rw [e1, e2, dots_text]
  · have hno : ¬ (!okS ⟨⟨a, b⟩, ⟨c, d⟩⟩) = false := by simpa using hok
    (repeat' ((conv => whnf); (first | with_reducible apply And.intro | (with_reducible intro hh; first | (with_reducible have hx := NewRow.self hh; clear hx) | (with_reducible have hrow := Made.row hh; have hle := Made.le hh; have hmade := hh; clear hh) | (with_reducible have hrow := Fresh.rowS hh; have hle := Fresh.leS hh; have hfr := hh; clear hh) | (with_reducible have hx := Ext.self hh; clear hx) | (with_reducible have hx := SlV.self hh; clear hx) | (with_reducible have hx := Value.self hh; clear hx) | with_reducible cases hh | skip) | (with_reducible apply AllEq.mk; intro yy hq) | with_reducible apply trivial | with_reducible apply Exists.intro () | (with_reducible apply ex_side; (first | with_reducible assumption | with_reducible apply fracs1 | with_reducible apply fracs2 | with_reducible apply fracs3 | with_reducible apply spans1 | with_reducible apply spans2 | (with_reducible apply NewRow.keep; with_reducible assumption) | (with_reducible apply RowAt.keep; with_reducible assumption) | assumption | (focus ((repeat (first | with_reducible assumption | (with_reducible apply RowAt.le; rotate_left; with_reducible assumption) | (with_reducible apply RowB.le; rotate_left; with_reducible assumption))); done)))) | (with_reducible apply ex_side (a := (_, _)); (focus (with_reducible apply And.intro <;> (focus ((repeat (first | with_reducible assumption | (with_reducible apply RowAt.le; rotate_left; with_reducible assumption) | (with_reducible apply RowB.le; rotate_left; with_reducible assumption))); done))))))); (all_goals (conv => whnf)))
    (all_goals (try dsimp only [Q.eta, Sn.eta, SlV.eta] at *)); (all_goals (first | exact Side.mk trivial | with_reducible exact Side.mk rfl | exact Side.mk (fun _ _ h => h) | exact Side.mk (Made.le (by assumption)) | refine Side.mk ?_ | refine Don.mk ?_ | skip))
    all_goals first | (exfalso; exact hno (by assumption)) | exact stxt_no (by assumption)

end Go.Proofs.YtadliapkjijahaaGreatDoor
