/- Contracts of both packages' functions on the lines of verniers, for all scales that lie in memory; no other condition. -/
import Derived.Test.YtlfhjmnaommckaaAb
import Derived.Test.YtlfhjmnaommckaaC1
import Derived.Test.YtlfhjmnaommckaaC2
import Derived.Test.YtlfhjmnaommckaaC3
import Derived.Test.YtlfhjmnaommckaaC4
import Derived.Test.YtlfhjmnaommckaaC5
import Derived.Test.YtlfhjmnaommckaaC6
import Derived.Test.YtlfhjmnaommckaaC7
import Derived.Test.YtlfhjmnaommckaaC8
import Derived.Test.YtlfhjmnaommckaaC9
import Derived.Test.YtlfhjmnaommckaaCO
import Derived.Test.YtlfhjmnaommckaaC12
import Derived.Test.YtlfhjmnaommckaaC14
import Derived.Test.YtlfhjmnaommckaaC15
import Derived.Test.YtlfhjmnaommckaaC16
import Derived.Test.YtlfhjmnaommckaaC13
import Derived.Test.YtlfhjmnaommckaaC17
import Derived.Test.YtlfhjmnaommckaaC18
import Derived.Test.YtlfhjmnaommckaaC19
import Derived.Test.YtlfhjmnaommckaaCL
import Derived.Test.YtlfhjmnaommckaaProg
set_option linter.unusedVariables false
set_option linter.unusedSimpArgs false
namespace Go.Proofs.Ytlfhjmnaommckaa
open Ab

def askB (u : Q) (l : List Q) (v : Ver) (x : Q) : Bool := okC u l && okV v && okQ x
def lineC (u : Q) (l : List Q) (v : Ver) (x : Q) (j : Int) : Int := if askB u l v x then (if withinB j 0 (v.1 - 1) then 0 else 2) else 1
theorem lineC_1 {u : Q} {l : List Q} {v : Ver} {x : Q} {j : Int} (h : askB u l v x = false) : lineC u l v x j = 1 := by unfold lineC; rw [if_neg (by rw [h]; decide)]
theorem lineC_2 {u : Q} {l : List Q} {v : Ver} {x : Q} {j : Int} (h : askB u l v x = true) (hj : withinB j 0 (v.1 - 1) = false) : lineC u l v x j = 2 := by unfold lineC; rw [if_pos h, if_neg (by rw [hj]; decide)]
theorem lineC_0 {u : Q} {l : List Q} {v : Ver} {x : Q} {j : Int} (h : askB u l v x = true) (hj : withinB j 0 (v.1 - 1) = true) : lineC u l v x j = 0 := by unfold lineC; rw [if_pos h, if_pos hj]
theorem askB_iff {u : Q} {l : List Q} {v : Ver} {x : Q} : askB u l v x = true ↔ okC u l = true ∧ okV v = true ∧ okQ x = true := by
  unfold askB
  simp [Bool.and_eq_true, and_assoc]
abbrev linCSp : Sp := .rf LA (fun x (l : List Q) E => FracsAt x.1.errs l E) (fun x l => .int .i64 (lineC x.1.unit l x.2.1 x.2.2.1 x.2.2.2.1))
set_option maxRecDepth 100000 in
theorem linC_ok : Sp.ok Try.prog 145 linCSp := by
  refine Sp.rf_ok (T := ⟨[(133, scaleOkVSp), (180, vernSp), (96, validSp), (95, withinSp)], []⟩) follows eqok0 ⟨enters Try.func133 rfl rfl, scaleV_ok, enters Try.func180 rfl rfl, vern_ok, enters Try.func96 rfl rfl, valid_ok, enters Try.func95 rfl rfl, within_ok, trivial⟩ [] Try.func145 rfl (by kernel_rfl) _ _ _ fun x l E hp => ?_
  obtain ⟨⟨⟨a, b⟩, ⟨sa, n, c⟩⟩, ⟨p, bk, u'⟩, ⟨x1, x2⟩, j, u⟩ := x
  dsimp only at hp
  by_cases hC : okC ⟨a, b⟩ l = true
  · by_cases hv : okV (p, bk, u') = true
    · obtain ⟨w1, w2⟩ := line_wrap hv
      by_cases hx : okQ ⟨x1, x2⟩ = true
      · have hA : askB ⟨a, b⟩ l (p, bk, u') ⟨x1, x2⟩ = true := askB_iff.2 ⟨hC, hv, hx⟩
        (repeat' ((conv => whnf); (first | with_reducible apply And.intro | (with_reducible intro hh; first | (with_reducible have hx := NewRow.self hh; clear hx) | (with_reducible have hrow := Made.row hh; have hle := Made.le hh; have hmade := hh; clear hh) | (with_reducible have hx := Ext.self hh; clear hx) | (with_reducible have hx := SlV.self hh; clear hx) | (with_reducible have hx := Value.self hh; clear hx) | with_reducible cases hh | skip) | (with_reducible apply AllEq.mk; intro yy hq) | with_reducible apply trivial | with_reducible apply Exists.intro () | (with_reducible apply ex_side; (first | with_reducible assumption | with_reducible apply fracs1 | with_reducible apply fracs2 | with_reducible apply fracs3 | with_reducible apply spans1 | with_reducible apply spans2 | (with_reducible apply NewRow.keep; with_reducible assumption) | (with_reducible apply RowAt.keep; with_reducible assumption) | assumption | (focus ((repeat (first | with_reducible assumption | (with_reducible apply RowAt.le; rotate_left; with_reducible assumption) | (with_reducible apply RowB.le; rotate_left; with_reducible assumption))); done)))) | (with_reducible apply ex_side (a := (_, _)); (focus (with_reducible apply And.intro <;> (focus ((repeat (first | with_reducible assumption | (with_reducible apply RowAt.le; rotate_left; with_reducible assumption) | (with_reducible apply RowB.le; rotate_left; with_reducible assumption))); done))))))); (all_goals (conv => whnf)))
        (all_goals (try dsimp only [Q.eta, Sn.eta, SlV.eta] at *)); (all_goals (first | exact Side.mk trivial | with_reducible exact Side.mk rfl | exact Side.mk (fun _ _ h => h) | exact Side.mk (Made.le (by assumption)) | refine Side.mk ?_ | refine Don.mk ?_ | skip))
        all_goals try simp only [w1] at *
        all_goals first | (exfalso; simp_all; done) | (rw [lineC_2 hA (not_t hh)]; done) | (rw [lineC_0 hA (not_f hh)]; done)
      · have hA : askB ⟨a, b⟩ l (p, bk, u') ⟨x1, x2⟩ = false := by unfold askB; rw [(by simpa using hx : okQ ⟨x1, x2⟩ = false)]; simp
        rw [lineC_1 hA]
        (repeat' ((conv => whnf); (first | with_reducible apply And.intro | (with_reducible intro hh; first | (with_reducible have hx := NewRow.self hh; clear hx) | (with_reducible have hrow := Made.row hh; have hle := Made.le hh; have hmade := hh; clear hh) | (with_reducible have hx := Ext.self hh; clear hx) | (with_reducible have hx := SlV.self hh; clear hx) | (with_reducible have hx := Value.self hh; clear hx) | with_reducible cases hh | skip) | (with_reducible apply AllEq.mk; intro yy hq) | with_reducible apply trivial | with_reducible apply Exists.intro () | (with_reducible apply ex_side; (first | with_reducible assumption | with_reducible apply fracs1 | with_reducible apply fracs2 | with_reducible apply fracs3 | with_reducible apply spans1 | with_reducible apply spans2 | (with_reducible apply NewRow.keep; with_reducible assumption) | (with_reducible apply RowAt.keep; with_reducible assumption) | assumption | (focus ((repeat (first | with_reducible assumption | (with_reducible apply RowAt.le; rotate_left; with_reducible assumption) | (with_reducible apply RowB.le; rotate_left; with_reducible assumption))); done)))) | (with_reducible apply ex_side (a := (_, _)); (focus (with_reducible apply And.intro <;> (focus ((repeat (first | with_reducible assumption | (with_reducible apply RowAt.le; rotate_left; with_reducible assumption) | (with_reducible apply RowB.le; rotate_left; with_reducible assumption))); done))))))); (all_goals (conv => whnf)))
        (all_goals (try dsimp only [Q.eta, Sn.eta, SlV.eta] at *)); (all_goals (first | exact Side.mk trivial | with_reducible exact Side.mk rfl | exact Side.mk (fun _ _ h => h) | exact Side.mk (Made.le (by assumption)) | refine Side.mk ?_ | refine Don.mk ?_ | skip))
        all_goals first | rfl | (exfalso; simp_all; done)
    · have hA : askB ⟨a, b⟩ l (p, bk, u') ⟨x1, x2⟩ = false := by unfold askB; rw [(by simpa using hv : okV (p, bk, u') = false)]; simp
      rw [lineC_1 hA]
      (repeat' ((conv => whnf); (first | with_reducible apply And.intro | (with_reducible intro hh; first | (with_reducible have hx := NewRow.self hh; clear hx) | (with_reducible have hrow := Made.row hh; have hle := Made.le hh; have hmade := hh; clear hh) | (with_reducible have hx := Ext.self hh; clear hx) | (with_reducible have hx := SlV.self hh; clear hx) | (with_reducible have hx := Value.self hh; clear hx) | with_reducible cases hh | skip) | (with_reducible apply AllEq.mk; intro yy hq) | with_reducible apply trivial | with_reducible apply Exists.intro () | (with_reducible apply ex_side; (first | with_reducible assumption | with_reducible apply fracs1 | with_reducible apply fracs2 | with_reducible apply fracs3 | with_reducible apply spans1 | with_reducible apply spans2 | (with_reducible apply NewRow.keep; with_reducible assumption) | (with_reducible apply RowAt.keep; with_reducible assumption) | assumption | (focus ((repeat (first | with_reducible assumption | (with_reducible apply RowAt.le; rotate_left; with_reducible assumption) | (with_reducible apply RowB.le; rotate_left; with_reducible assumption))); done)))) | (with_reducible apply ex_side (a := (_, _)); (focus (with_reducible apply And.intro <;> (focus ((repeat (first | with_reducible assumption | (with_reducible apply RowAt.le; rotate_left; with_reducible assumption) | (with_reducible apply RowB.le; rotate_left; with_reducible assumption))); done))))))); (all_goals (conv => whnf)))
      (all_goals (try dsimp only [Q.eta, Sn.eta, SlV.eta] at *)); (all_goals (first | exact Side.mk trivial | with_reducible exact Side.mk rfl | exact Side.mk (fun _ _ h => h) | exact Side.mk (Made.le (by assumption)) | refine Side.mk ?_ | refine Don.mk ?_ | skip))
      all_goals first | rfl | (exfalso; simp_all; done)
  · have hA : askB ⟨a, b⟩ l (p, bk, u') ⟨x1, x2⟩ = false := by unfold askB; rw [(by simpa using hC : okC ⟨a, b⟩ l = false)]; simp
    rw [lineC_1 hA]
    (repeat' ((conv => whnf); (first | with_reducible apply And.intro | (with_reducible intro hh; first | (with_reducible have hx := NewRow.self hh; clear hx) | (with_reducible have hrow := Made.row hh; have hle := Made.le hh; have hmade := hh; clear hh) | (with_reducible have hx := Ext.self hh; clear hx) | (with_reducible have hx := SlV.self hh; clear hx) | (with_reducible have hx := Value.self hh; clear hx) | with_reducible cases hh | skip) | (with_reducible apply AllEq.mk; intro yy hq) | with_reducible apply trivial | with_reducible apply Exists.intro () | (with_reducible apply ex_side; (first | with_reducible assumption | with_reducible apply fracs1 | with_reducible apply fracs2 | with_reducible apply fracs3 | with_reducible apply spans1 | with_reducible apply spans2 | (with_reducible apply NewRow.keep; with_reducible assumption) | (with_reducible apply RowAt.keep; with_reducible assumption) | assumption | (focus ((repeat (first | with_reducible assumption | (with_reducible apply RowAt.le; rotate_left; with_reducible assumption) | (with_reducible apply RowB.le; rotate_left; with_reducible assumption))); done)))) | (with_reducible apply ex_side (a := (_, _)); (focus (with_reducible apply And.intro <;> (focus ((repeat (first | with_reducible assumption | (with_reducible apply RowAt.le; rotate_left; with_reducible assumption) | (with_reducible apply RowB.le; rotate_left; with_reducible assumption))); done))))))); (all_goals (conv => whnf)))
    (all_goals (try dsimp only [Q.eta, Sn.eta, SlV.eta] at *)); (all_goals (first | exact Side.mk trivial | with_reducible exact Side.mk rfl | exact Side.mk (fun _ _ h => h) | exact Side.mk (Made.le (by assumption)) | refine Side.mk ?_ | refine Don.mk ?_ | skip))
    all_goals first | rfl | (exfalso; simp_all; done)
abbrev askSp : Sp := .hf2 sclL 70 VL 109 F1 (fun s _ _ (l : List Q) E => FracsAt s.errs l E) (fun s v x l => .int .i64 (if askB s.unit l v x.1 then 0 else 1))
set_option maxRecDepth 100000 in
theorem ask_ok : Sp.ok Try.prog 143 askSp := by
  refine Sp.hf2_ok (T := ⟨[(130, scaleOkSp), (177, vernPSp), (103, validSp)], []⟩) follows eqok0 ⟨enters Try.func130 rfl rfl, scaleOk_ok, enters Try.func177 rfl rfl, vernP_ok, enters Try.func103 rfl rfl, spok_ok, trivial⟩ [] Try.func143 rfl (by kernel_rfl) _ _ _ _ _ _ _ fun s v x l E hp => ?_
  obtain ⟨⟨a, b⟩, ⟨sa, n, c⟩⟩ := s
  obtain ⟨p, bk, u'⟩ := v
  obtain ⟨⟨x1, x2⟩, u⟩ := x
  dsimp only at hp
  by_cases hA : askB ⟨a, b⟩ l (p, bk, u') ⟨x1, x2⟩ = true
  · obtain ⟨h1, h2, h3⟩ := askB_iff.1 hA
    rw [if_pos hA]
    (repeat' ((conv => whnf); (first | with_reducible apply And.intro | (with_reducible intro hh; first | (with_reducible have hx := NewRow.self hh; clear hx) | (with_reducible have hrow := Made.row hh; have hle := Made.le hh; have hmade := hh; clear hh) | (with_reducible have hx := Ext.self hh; clear hx) | (with_reducible have hx := SlV.self hh; clear hx) | (with_reducible have hx := Value.self hh; clear hx) | with_reducible cases hh | skip) | (with_reducible apply AllEq.mk; intro yy hq) | with_reducible apply trivial | with_reducible apply Exists.intro () | (with_reducible apply ex_side; (first | with_reducible assumption | with_reducible apply fracs1 | with_reducible apply fracs2 | with_reducible apply fracs3 | with_reducible apply spans1 | with_reducible apply spans2 | (with_reducible apply NewRow.keep; with_reducible assumption) | (with_reducible apply RowAt.keep; with_reducible assumption) | assumption | (focus ((repeat (first | with_reducible assumption | (with_reducible apply RowAt.le; rotate_left; with_reducible assumption) | (with_reducible apply RowB.le; rotate_left; with_reducible assumption))); done)))) | (with_reducible apply ex_side (a := (_, _)); (focus (with_reducible apply And.intro <;> (focus ((repeat (first | with_reducible assumption | (with_reducible apply RowAt.le; rotate_left; with_reducible assumption) | (with_reducible apply RowB.le; rotate_left; with_reducible assumption))); done))))))); (all_goals (conv => whnf)))
    (all_goals (try dsimp only [Q.eta, Sn.eta, SlV.eta] at *)); (all_goals (first | exact Side.mk trivial | with_reducible exact Side.mk rfl | exact Side.mk (fun _ _ h => h) | exact Side.mk (Made.le (by assumption)) | refine Side.mk ?_ | refine Don.mk ?_ | skip))
    all_goals first | exact ⟨rfl, rfl, rfl⟩ | (exfalso; simp_all; done)
  · rw [if_neg hA]
    have hA' : askB ⟨a, b⟩ l (p, bk, u') ⟨x1, x2⟩ = false := by simpa using hA
    unfold askB at hA'
    (repeat' ((conv => whnf); (first | with_reducible apply And.intro | (with_reducible intro hh; first | (with_reducible have hx := NewRow.self hh; clear hx) | (with_reducible have hrow := Made.row hh; have hle := Made.le hh; have hmade := hh; clear hh) | (with_reducible have hx := Ext.self hh; clear hx) | (with_reducible have hx := SlV.self hh; clear hx) | (with_reducible have hx := Value.self hh; clear hx) | with_reducible cases hh | skip) | (with_reducible apply AllEq.mk; intro yy hq) | with_reducible apply trivial | with_reducible apply Exists.intro () | (with_reducible apply ex_side; (first | with_reducible assumption | with_reducible apply fracs1 | with_reducible apply fracs2 | with_reducible apply fracs3 | with_reducible apply spans1 | with_reducible apply spans2 | (with_reducible apply NewRow.keep; with_reducible assumption) | (with_reducible apply RowAt.keep; with_reducible assumption) | assumption | (focus ((repeat (first | with_reducible assumption | (with_reducible apply RowAt.le; rotate_left; with_reducible assumption) | (with_reducible apply RowB.le; rotate_left; with_reducible assumption))); done)))) | (with_reducible apply ex_side (a := (_, _)); (focus (with_reducible apply And.intro <;> (focus ((repeat (first | with_reducible assumption | (with_reducible apply RowAt.le; rotate_left; with_reducible assumption) | (with_reducible apply RowB.le; rotate_left; with_reducible assumption))); done))))))); (all_goals (conv => whnf)))
    (all_goals (try dsimp only [Q.eta, Sn.eta, SlV.eta] at *)); (all_goals (first | exact Side.mk trivial | with_reducible exact Side.mk rfl | exact Side.mk (fun _ _ h => h) | exact Side.mk (Made.le (by assumption)) | refine Side.mk ?_ | refine Don.mk ?_ | skip))
    all_goals first | exact ⟨rfl, rfl, rfl⟩ | (exfalso; simp_all; done)
def lineR (u : Q) (l : List Q) (v : Ver) (x : Q) (j : Int) : Q × Int := grd Q0 (askB u l v x) 1 (grd Q0 (withinB j 0 (v.1 - 1)) 2 (outO (lineO u x v j)))
abbrev lineASp : Sp := .rf LA (fun x (l : List Q) E => FracsAt x.1.errs l E) (fun x l => RQ (lineR x.1.unit l x.2.1 x.2.2.1 x.2.2.2.1))
theorem one_line (u x : Q) (v : Ver) (j : Int) : RQ ((if (false || lineB u x v j) = true then (⟨0, 0⟩ : Q) else lineT u x v j), (if (false || lineB u x v j) = true then (3 : Int) else 0)) = RQ (outO (lineO u x v j)) := one_sum (by rw [Bool.false_or, lineB_none]) (fun t ht => lineT_some ht)

end Go.Proofs.Ytlfhjmnaommckaa
