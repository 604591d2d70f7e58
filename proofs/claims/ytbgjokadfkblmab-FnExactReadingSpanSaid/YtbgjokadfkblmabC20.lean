/- Contracts of both packages' functions on the lines of verniers, for all scales that lie in memory; no other condition. -/
import Derived.Test.YtbgjokadfkblmabAb
import Derived.Test.YtbgjokadfkblmabC1
import Derived.Test.YtbgjokadfkblmabC2
import Derived.Test.YtbgjokadfkblmabC3
import Derived.Test.YtbgjokadfkblmabC4
import Derived.Test.YtbgjokadfkblmabC5
import Derived.Test.YtbgjokadfkblmabC6
import Derived.Test.YtbgjokadfkblmabC7
import Derived.Test.YtbgjokadfkblmabC8
import Derived.Test.YtbgjokadfkblmabC9
import Derived.Test.YtbgjokadfkblmabCO
import Derived.Test.YtbgjokadfkblmabC12
import Derived.Test.YtbgjokadfkblmabC14
import Derived.Test.YtbgjokadfkblmabC15
import Derived.Test.YtbgjokadfkblmabC16
import Derived.Test.YtbgjokadfkblmabC13
import Derived.Test.YtbgjokadfkblmabC17
import Derived.Test.YtbgjokadfkblmabC18
import Derived.Test.YtbgjokadfkblmabC19
import Derived.Test.YtbgjokadfkblmabCL
import Derived.Test.YtbgjokadfkblmabProg
set_option linter.unusedVariables false
set_option linter.unusedSimpArgs false
namespace Go.Proofs.Ytbgjokadfkblmab
open Ab

def askB (u : Q) (l : List Q) (v : Ver) (x : Q) : Bool := okC u l && okV v && okQ x
def lineC (u : Q) (l : List Q) (v : Ver) (x : Q) (j : Int) : Int := if askB u l v x then (if withinB j 0 (v.1 - 1) then 0 else 2) else 1
theorem lineC_1 {u : Q} {l : List Q} {v : Ver} {x : Q} {j : Int} (h : askB u l v x = false) : lineC u l v x j = 1 := by unfold lineC; rw [if_neg (by rw [h]; decide)]
theorem lineC_2 {u : Q} {l : List Q} {v : Ver} {x : Q} {j : Int} (h : askB u l v x = true) (hj : withinB j 0 (v.1 - 1) = false) : lineC u l v x j = 2 := by unfold lineC; rw [if_pos h, if_neg (by rw [hj]; decide)]
theorem lineC_0 {u : Q} {l : List Q} {v : Ver} {x : Q} {j : Int} (h : askB u l v x = true) (hj : withinB j 0 (v.1 - 1) = true) : lineC u l v x j = 0 := by unfold lineC; rw [if_pos h, if_pos hj]
theorem askB_iff {u : Q} {l : List Q} {v : Ver} {x : Q} : askB u l v x = true ↔ okC u l = true ∧ okV v = true ∧ okQ x = true := by
  unfold askB
  simp [Bool.and_eq_true, and_assoc]
abbrev linCSp : Sp := .rf LA (fun x (l : List Q) E => FracsAt x.1.errs l E) (fun x l => .int .i64 (lineC x.1.unit l x.2.1 x.2.2.1 x.2.2.2.1))
set_option maxRecDepth 100000 in
theorem linC_ok : Sp.ok Try.prog 87 linCSp := by
  refine Sp.rf_ok (T := [(69, scaleOkVSp), (70, vernSp), (82, validSp), (102, withinSp)]) follows eqok0 ⟨enters Try.func69 rfl rfl, scaleV_ok, enters Try.func70 rfl rfl, vern_ok, enters Try.func82 rfl rfl, valid_ok, enters Try.func102 rfl rfl, within_ok, trivial⟩ [] Try.func87 rfl (by kernel_rfl) _ _ _ fun x l E hp => ?_
  obtain ⟨⟨⟨a, b⟩, ⟨sa, n, c⟩⟩, ⟨p, bk, u'⟩, ⟨x1, x2⟩, j, u⟩ := x
  dsimp only at hp
  by_cases hC : okC ⟨a, b⟩ l = true
  · by_cases hv : okV (p, bk, u') = true
    · obtain ⟨w1, w2⟩ := line_wrap hv
      by_cases hx : okQ ⟨x1, x2⟩ = true
      · have hA : askB ⟨a, b⟩ l (p, bk, u') ⟨x1, x2⟩ = true := askB_iff.2 ⟨hC, hv, hx⟩
        (repeat' ((conv => whnf); (first | with_reducible apply And.intro | (with_reducible intro hh; first | (with_reducible have hx := NewRow.self hh; clear hx) | (with_reducible have hrow := Made.row hh; have hle := Made.le hh; have hmade := hh; clear hh) | (with_reducible have hx := Ext.self hh; clear hx) | (with_reducible have hx := SlV.self hh; clear hx) | (with_reducible have hx := Value.self hh; clear hx) | with_reducible cases hh | skip) | (with_reducible apply AllEq.mk; intro yy hq) | with_reducible apply trivial | with_reducible apply Exists.intro () | (with_reducible apply ex_side; (first | with_reducible assumption | with_reducible apply fracs1 | with_reducible apply fracs2 | with_reducible apply fracs3 | with_reducible apply spans1 | with_reducible apply spans2 | (with_reducible apply NewRow.keep; with_reducible assumption) | (with_reducible apply RowAt.keep; with_reducible assumption) | assumption | (focus ((repeat (first | with_reducible assumption | (with_reducible apply RowAt.le; rotate_left; with_reducible assumption) | (with_reducible apply RowB.le; rotate_left; with_reducible assumption))); done)))) | (with_reducible apply ex_side (a := (_, _)); (focus (with_reducible apply And.intro <;> (focus ((repeat (first | with_reducible assumption | (with_reducible apply RowAt.le; rotate_left; with_reducible assumption) | (with_reducible apply RowB.le; rotate_left; with_reducible assumption))); done))))))); (all_goals (conv => whnf)))
        (all_goals (try dsimp only [Q.eta, Sn.eta, SlV.eta] at *)); (all_goals (first | exact Side.mk trivial | with_reducible exact Side.mk rfl | exact Side.mk (fun _ _ h => h) | exact Side.mk (Made.le (by assumption)) | refine Side.mk ?_ | refine Don.mk ?_ | skip))
        all_goals try simp only [w1] at *
        all_goals first | (exfalso; simp_all; done) | (rw [lineC_2 hA (not_t hh)]; done) | (rw [lineC_0 hA (not_f hh)]; done)
      · have hA : askB ⟨a, b⟩ l (p, bk, u') ⟨x1, x2⟩ = false := by unfold askB; rw [(by simpa using hx : okQ ⟨x1, x2⟩ = false)]; simp
        rw [lineC_1 hA]
        (repeat' ((conv => whnf); (first | with_reducible apply And.intro | (with_reducible intro hh; first | (with_reducible have hx := NewRow.self hh; clear hx) | (with_reducible have hrow := Made.row hh; have hle := Made.le hh; have hmade := hh; clear hh) | (with_reducible have hx := Ext.self hh; clear hx) | (with_reducible have hx := SlV.self hh; clear hx) | (with_reducible have hx := Value.self hh; clear hx) | with_reducible cases hh | skip) | (with_reducible apply AllEq.mk; intro yy hq) | with_reducible apply trivial | with_reducible apply Exists.intro () | (with_reducible apply ex_side; (first | with_reducible assumption | with_reducible apply fracs1 | with_reducible apply fracs2 | with_reducible apply fracs3 | with_reducible apply spans1 | with_reducible apply spans2 | (with_reducible apply NewRow.keep; with_reducible assumption) | (with_reducible apply RowAt.keep; with_reducible assumption) | assumption | (focus ((repeat (first | with_reducible assumption | (with_reducible apply RowAt.le; rotate_left; with_reducible assumption) | (with_reducible apply RowB.le; rotate_left; with_reducible assumption))); done)))) | (with_reducible apply ex_side (a := (_, _)); (focus (with_reducible apply And.intro <;> (focus ((repeat (first | with_reducible assumption | (with_reducible apply RowAt.le; rotate_left; with_reducible assumption) | (with_reducible apply RowB.le; rotate_left; with_reducible assumption))); done))))))); (all_goals (conv => whnf)))
        (all_goals (try dsimp only [Q.eta, Sn.eta, SlV.eta] at *)); (all_goals (first | exact Side.mk trivial | with_reducible exact Side.mk rfl | exact Side.mk (fun _ _ h => h) | exact Side.mk (Made.le (by assumption)) | refine Side.mk ?_ | refine Don.mk ?_ | skip))
        all_goals first | rfl | (exfalso; simp_all; done)
    · have hA : askB ⟨a, b⟩ l (p, bk, u') ⟨x1, x2⟩ = false := by unfold askB; rw [(by simpa using hv : okV (p, bk, u') = false)]; simp
      rw [lineC_1 hA]
      (repeat' ((conv => whnf); (first | with_reducible apply And.intro | (with_reducible intro hh; first | (with_reducible have hx := NewRow.self hh; clear hx) | (with_reducible have hrow := Made.row hh; have hle := Made.le hh; have hmade := hh; clear hh) | (with_reducible have hx := Ext.self hh; clear hx) | (with_reducible have hx := SlV.self hh; clear hx) | (with_reducible have hx := Value.self hh; clear hx) | with_reducible cases hh | skip) | (with_reducible apply AllEq.mk; intro yy hq) | with_reducible apply trivial | with_reducible apply Exists.intro () | (with_reducible apply ex_side; (first | with_reducible assumption | with_reducible apply fracs1 | with_reducible apply fracs2 | with_reducible apply fracs3 | with_reducible apply spans1 | with_reducible apply spans2 | (with_reducible apply NewRow.keep; with_reducible assumption) | (with_reducible apply RowAt.keep; with_reducible assumption) | assumption | (focus ((repeat (first | with_reducible assumption | (with_reducible apply RowAt.le; rotate_left; with_reducible assumption) | (with_reducible apply RowB.le; rotate_left; with_reducible assumption))); done)))) | (with_reducible apply ex_side (a := (_, _)); (focus (with_reducible apply And.intro <;> (focus ((repeat (first | with_reducible assumption | (with_reducible apply RowAt.le; rotate_left; with_reducible assumption) | (with_reducible apply RowB.le; rotate_left; with_reducible assumption))); done))))))); (all_goals (conv => whnf)))
      (all_goals (try dsimp only [Q.eta, Sn.eta, SlV.eta] at *)); (all_goals (first | exact Side.mk trivial | with_reducible exact Side.mk rfl | exact Side.mk (fun _ _ h => h) | exact Side.mk (Made.le (by assumption)) | refine Side.mk ?_ | refine Don.mk ?_ | skip))
      all_goals first | rfl | (exfalso; simp_all; done)
  · have hA : askB ⟨a, b⟩ l (p, bk, u') ⟨x1, x2⟩ = false := by unfold askB; rw [(by simpa using hC : okC ⟨a, b⟩ l = false)]; simp
    rw [lineC_1 hA]
    (repeat' ((conv => whnf); (first | with_reducible apply And.intro | (with_reducible intro hh; first | (with_reducible have hx := NewRow.self hh; clear hx) | (with_reducible have hrow := Made.row hh; have hle := Made.le hh; have hmade := hh; clear hh) | (with_reducible have hx := Ext.self hh; clear hx) | (with_reducible have hx := SlV.self hh; clear hx) | (with_reducible have hx := Value.self hh; clear hx) | with_reducible cases hh | skip) | (with_reducible apply AllEq.mk; intro yy hq) | with_reducible apply trivial | with_reducible apply Exists.intro () | (with_reducible apply ex_side; (first | with_reducible assumption | with_reducible apply fracs1 | with_reducible apply fracs2 | with_reducible apply fracs3 | with_reducible apply spans1 | with_reducible apply spans2 | (with_reducible apply NewRow.keep; with_reducible assumption) | (with_reducible apply RowAt.keep; with_reducible assumption) | assumption | (focus ((repeat (first | with_reducible assumption | (with_reducible apply RowAt.le; rotate_left; with_reducible assumption) | (with_reducible apply RowB.le; rotate_left; with_reducible assumption))); done)))) | (with_reducible apply ex_side (a := (_, _)); (focus (with_reducible apply And.intro <;> (focus ((repeat (first | with_reducible assumption | (with_reducible apply RowAt.le; rotate_left; with_reducible assumption) | (with_reducible apply RowB.le; rotate_left; with_reducible assumption))); done))))))); (all_goals (conv => whnf)))
    (all_goals (try dsimp only [Q.eta, Sn.eta, SlV.eta] at *)); (all_goals (first | exact Side.mk trivial | with_reducible exact Side.mk rfl | exact Side.mk (fun _ _ h => h) | exact Side.mk (Made.le (by assumption)) | refine Side.mk ?_ | refine Don.mk ?_ | skip))
    all_goals first | rfl | (exfalso; simp_all; done)
abbrev askSp : Sp := .hf2 sclL 35 VL 37 F1 (fun s _ _ (l : List Q) E => FracsAt s.errs l E) (fun s v x l => .int .i64 (if askB s.unit l v x.1 then 0 else 1))
set_option maxRecDepth 100000 in
theorem ask_ok : Sp.ok Try.prog 84 askSp := by
  refine Sp.hf2_ok (T := [(65, scaleOkSp), (66, vernPSp), (80, validSp)]) follows eqok0 ⟨enters Try.func65 rfl rfl, scaleOk_ok, enters Try.func66 rfl rfl, vernP_ok, enters Try.func80 rfl rfl, spok_ok, trivial⟩ [] Try.func84 rfl (by kernel_rfl) _ _ _ _ _ _ _ fun s v x l E hp => ?_
  obtain ⟨⟨a, b⟩, ⟨sa, n, c⟩⟩ := s
  obtain ⟨p, bk, u'⟩ := v
  obtain ⟨⟨x1, x2⟩, u⟩ := x
  dsimp only at hp
  by_cases hA : askB ⟨a, b⟩ l (p, bk, u') ⟨x1, x2⟩ = true
  · obtain ⟨h1, h2, h3⟩ := askB_iff.1 hA
    rw [if_pos hA]
    (repeat' ((conv => whnf); (first | with_reducible apply And.intro | (with_reducible intro hh; first | (with_reducible have hx := NewRow.self hh; clear hx) | (with_reducible have hrow := Made.row hh; have hle := Made.le hh; have hmade := hh; clear hh) | (with_reducible have hx := Ext.self hh; clear hx) | (with_reducible have hx := SlV.self hh; clear hx) | (with_reducible have hx := Value.self hh; clear hx) | with_reducible cases hh | skip) | (with_reducible apply AllEq.mk; intro yy hq) | with_reducible apply trivial | with_reducible apply Exists.intro () | (with_reducible apply ex_side; (first | with_reducible assumption | with_reducible apply fracs1 | with_reducible apply fracs2 | with_reducible apply fracs3 | with_reducible apply spans1 | with_reducible apply spans2 | (with_reducible apply NewRow.keep; with_reducible assumption) | (with_reducible apply RowAt.keep; with_reducible assumption) | assumption | (focus ((repeat (first | with_reducible assumption | (with_reducible apply RowAt.le; rotate_left; with_reducible assumption) | (with_reducible apply RowB.le; rotate_left; with_reducible assumption))); done)))) | (with_reducible apply ex_side (a := (_, _)); (focus (with_reducible apply And.intro <;> (focus ((repeat (first | with_reducible assumption | (with_reducible apply RowAt.le; rotate_left; with_reducible assumption) | (with_reducible apply RowB.le; rotate_left; with_reducible assumption))); done))))))); (all_goals (conv => whnf)))
    (all_goals (try dsimp only [Q.eta, Sn.eta, SlV.eta] at *)); (all_goals (first | exact Side.mk trivial | with_reducible exact Side.mk rfl | exact Side.mk (fun _ _ h => h) | exact Side.mk (Made.le (by assumption)) | refine Side.mk ?_ | refine Don.mk ?_ | skip))
    all_goals first | exact ⟨rfl, rfl, rfl⟩ | (exfalso; simp_all; done)
  · rw [if_neg hA]
    have hA' : askB ⟨a, b⟩ l (p, bk, u') ⟨x1, x2⟩ = false := by simpa using hA
    unfold askB at hA'
    (repeat' ((conv => whnf); (first | with_reducible apply And.intro | (with_reducible intro hh; first | (with_reducible have hx := NewRow.self hh; clear hx) | (with_reducible have hrow := Made.row hh; have hle := Made.le hh; have hmade := hh; clear hh) | (with_reducible have hx := Ext.self hh; clear hx) | (with_reducible have hx := SlV.self hh; clear hx) | (with_reducible have hx := Value.self hh; clear hx) | with_reducible cases hh | skip) | (with_reducible apply AllEq.mk; intro yy hq) | with_reducible apply trivial | with_reducible apply Exists.intro () | (with_reducible apply ex_side; (first | with_reducible assumption | with_reducible apply fracs1 | with_reducible apply fracs2 | with_reducible apply fracs3 | with_reducible apply spans1 | with_reducible apply spans2 | (with_reducible apply NewRow.keep; with_reducible assumption) | (with_reducible apply RowAt.keep; with_reducible assumption) | assumption | (focus ((repeat (first | with_reducible assumption | (with_reducible apply RowAt.le; rotate_left; with_reducible assumption) | (with_reducible apply RowB.le; rotate_left; with_reducible assumption))); done)))) | (with_reducible apply ex_side (a := (_, _)); (focus (with_reducible apply And.intro <;> (focus ((repeat (first | with_reducible assumption | (with_reducible apply RowAt.le; rotate_left; with_reducible assumption) | (with_reducible apply RowB.le; rotate_left; with_reducible assumption))); done))))))); (all_goals (conv => whnf)))
    (all_goals (try dsimp only [Q.eta, Sn.eta, SlV.eta] at *)); (all_goals (first | exact Side.mk trivial | with_reducible exact Side.mk rfl | exact Side.mk (fun _ _ h => h) | exact Side.mk (Made.le (by assumption)) | refine Side.mk ?_ | refine Don.mk ?_ | skip))
    all_goals first | exact ⟨rfl, rfl, rfl⟩ | (exfalso; simp_all; done)
def lineR (u : Q) (l : List Q) (v : Ver) (x : Q) (j : Int) : Q × Int := grd Q0 (askB u l v x) 1 (grd Q0 (withinB j 0 (v.1 - 1)) 2 (outO (lineO u x v j)))
abbrev lineASp : Sp := .rf LA (fun x (l : List Q) E => FracsAt x.1.errs l E) (fun x l => RQ (lineR x.1.unit l x.2.1 x.2.2.1 x.2.2.2.1))
theorem one_line (u x : Q) (v : Ver) (j : Int) : RQ ((if (false || lineB u x v j) = true then (⟨0, 0⟩ : Q) else lineT u x v j), (if (false || lineB u x v j) = true then (3 : Int) else 0)) = RQ (outO (lineO u x v j)) := one_sum (by rw [Bool.false_or, lineB_none]) (fun t ht => lineT_some ht)
set_option maxRecDepth 100000 in
theorem lineA_ok : Sp.ok Try.prog 36 lineASp := by
  refine Sp.rf_ok (T := [(87, linCSp), (88, tlineqSp), (71, oneSp)]) follows eqok0 ⟨enters Try.func87 rfl rfl, linC_ok, enters Try.func88 rfl rfl, tlineq_ok, enters Try.func71 rfl rfl, one_ok, trivial⟩ [] Try.func36 rfl (by kernel_rfl) _ _ _ fun x l E hp => ?_
  obtain ⟨⟨⟨a, b⟩, ⟨sa, n, c⟩⟩, ⟨p, bk, u'⟩, ⟨x1, x2⟩, j, u⟩ := x
  dsimp only at hp
  by_cases hA : askB ⟨a, b⟩ l (p, bk, u') ⟨x1, x2⟩ = true
  · obtain ⟨h1, h2, h3⟩ := askB_iff.1 hA
    by_cases hj : withinB j 0 (p - 1) = true
    · have hc := lineC_0 (j := j) hA hj
      have hL : LineIn ⟨a, b⟩ ⟨x1, x2⟩ (p, bk, u') j := ⟨okC_unit h1, h2, h3, hj⟩
      rw [lineR, grd_yes hA, grd_yes hj]
      (repeat' ((conv => whnf); (first | with_reducible apply And.intro | (with_reducible intro hh; first | (with_reducible have hx := NewRow.self hh; clear hx) | (with_reducible have hrow := Made.row hh; have hle := Made.le hh; have hmade := hh; clear hh) | (with_reducible have hx := Ext.self hh; clear hx) | (with_reducible have hx := SlV.self hh; clear hx) | (with_reducible have hx := Value.self hh; clear hx) | with_reducible cases hh | skip) | (with_reducible apply AllEq.mk; intro yy hq) | with_reducible apply trivial | with_reducible apply Exists.intro () | (with_reducible apply ex_side; (first | with_reducible assumption | with_reducible apply fracs1 | with_reducible apply fracs2 | with_reducible apply fracs3 | with_reducible apply spans1 | with_reducible apply spans2 | (with_reducible apply NewRow.keep; with_reducible assumption) | (with_reducible apply RowAt.keep; with_reducible assumption) | assumption | (focus ((repeat (first | with_reducible assumption | (with_reducible apply RowAt.le; rotate_left; with_reducible assumption) | (with_reducible apply RowB.le; rotate_left; with_reducible assumption))); done)))) | (with_reducible apply ex_side (a := (_, _)); (focus (with_reducible apply And.intro <;> (focus ((repeat (first | with_reducible assumption | (with_reducible apply RowAt.le; rotate_left; with_reducible assumption) | (with_reducible apply RowB.le; rotate_left; with_reducible assumption))); done))))))); (all_goals (conv => whnf)))
      (all_goals (try dsimp only [Q.eta, Sn.eta, SlV.eta] at *)); (all_goals (first | exact Side.mk trivial | with_reducible exact Side.mk rfl | exact Side.mk (fun _ _ h => h) | exact Side.mk (Made.le (by assumption)) | refine Side.mk ?_ | refine Don.mk ?_ | skip))
      all_goals subst_vars
      all_goals try simp only [hc] at *
      all_goals first | exact hL | exact congrArg AV.v (one_line _ _ _ _) | (exfalso; exact absurd (by assumption : ((0 : Int) != 0) = true) (by decide))
    · have hj' : withinB j 0 (p - 1) = false := by simpa using hj
      have hc := lineC_2 hA hj'
      rw [lineR, grd_yes hA, grd_no hj']
      (repeat' ((conv => whnf); (first | with_reducible apply And.intro | (with_reducible intro hh; first | (with_reducible have hx := NewRow.self hh; clear hx) | (with_reducible have hrow := Made.row hh; have hle := Made.le hh; have hmade := hh; clear hh) | (with_reducible have hx := Ext.self hh; clear hx) | (with_reducible have hx := SlV.self hh; clear hx) | (with_reducible have hx := Value.self hh; clear hx) | with_reducible cases hh | skip) | (with_reducible apply AllEq.mk; intro yy hq) | with_reducible apply trivial | with_reducible apply Exists.intro () | (with_reducible apply ex_side; (first | with_reducible assumption | with_reducible apply fracs1 | with_reducible apply fracs2 | with_reducible apply fracs3 | with_reducible apply spans1 | with_reducible apply spans2 | (with_reducible apply NewRow.keep; with_reducible assumption) | (with_reducible apply RowAt.keep; with_reducible assumption) | assumption | (focus ((repeat (first | with_reducible assumption | (with_reducible apply RowAt.le; rotate_left; with_reducible assumption) | (with_reducible apply RowB.le; rotate_left; with_reducible assumption))); done)))) | (with_reducible apply ex_side (a := (_, _)); (focus (with_reducible apply And.intro <;> (focus ((repeat (first | with_reducible assumption | (with_reducible apply RowAt.le; rotate_left; with_reducible assumption) | (with_reducible apply RowB.le; rotate_left; with_reducible assumption))); done))))))); (all_goals (conv => whnf)))
      (all_goals (try dsimp only [Q.eta, Sn.eta, SlV.eta] at *)); (all_goals (first | exact Side.mk trivial | with_reducible exact Side.mk rfl | exact Side.mk (fun _ _ h => h) | exact Side.mk (Made.le (by assumption)) | refine Side.mk ?_ | refine Don.mk ?_ | skip))
      all_goals try simp only [hc] at *
      all_goals first | rfl | (exfalso; exact absurd (by assumption : ((2 : Int) != 0) = false) (by decide))
  · have hA' : askB ⟨a, b⟩ l (p, bk, u') ⟨x1, x2⟩ = false := by simpa using hA
    have hc := lineC_1 (j := j) hA'
    rw [lineR, grd_no hA']
    (repeat' ((conv => whnf); (first | with_reducible apply And.intro | (with_reducible intro hh; first | (with_reducible have hx := NewRow.self hh; clear hx) | (with_reducible have hrow := Made.row hh; have hle := Made.le hh; have hmade := hh; clear hh) | (with_reducible have hx := Ext.self hh; clear hx) | (with_reducible have hx := SlV.self hh; clear hx) | (with_reducible have hx := Value.self hh; clear hx) | with_reducible cases hh | skip) | (with_reducible apply AllEq.mk; intro yy hq) | with_reducible apply trivial | with_reducible apply Exists.intro () | (with_reducible apply ex_side; (first | with_reducible assumption | with_reducible apply fracs1 | with_reducible apply fracs2 | with_reducible apply fracs3 | with_reducible apply spans1 | with_reducible apply spans2 | (with_reducible apply NewRow.keep; with_reducible assumption) | (with_reducible apply RowAt.keep; with_reducible assumption) | assumption | (focus ((repeat (first | with_reducible assumption | (with_reducible apply RowAt.le; rotate_left; with_reducible assumption) | (with_reducible apply RowB.le; rotate_left; with_reducible assumption))); done)))) | (with_reducible apply ex_side (a := (_, _)); (focus (with_reducible apply And.intro <;> (focus ((repeat (first | with_reducible assumption | (with_reducible apply RowAt.le; rotate_left; with_reducible assumption) | (with_reducible apply RowB.le; rotate_left; with_reducible assumption))); done))))))); (all_goals (conv => whnf)))
    (all_goals (try dsimp only [Q.eta, Sn.eta, SlV.eta] at *)); (all_goals (first | exact Side.mk trivial | with_reducible exact Side.mk rfl | exact Side.mk (fun _ _ h => h) | exact Side.mk (Made.le (by assumption)) | refine Side.mk ?_ | refine Don.mk ?_ | skip))
    all_goals try simp only [hc] at *
    all_goals first | rfl | (exfalso; exact absurd (by assumption : ((1 : Int) != 0) = false) (by decide))
set_option maxRecDepth 100000 in
theorem slineA_ok : Sp.ok Try.prog 35 lineASp := by
  refine Sp.rf_ok (T := [(84, askSp), (85, withinSp), (86, slineqSp)]) follows eqok0 ⟨enters Try.func84 rfl rfl, ask_ok, enters Try.func85 rfl rfl, in_ok, enters Try.func86 rfl rfl, slineq_ok, trivial⟩ [] Try.func35 rfl (by kernel_rfl) _ _ _ fun x l E hp => ?_
  obtain ⟨⟨⟨a, b⟩, ⟨sa, n, c⟩⟩, ⟨p, bk, u'⟩, ⟨x1, x2⟩, j, u⟩ := x
  dsimp only at hp
  by_cases hA : askB ⟨a, b⟩ l (p, bk, u') ⟨x1, x2⟩ = true
  · obtain ⟨h1, h2, h3⟩ := askB_iff.1 hA
    obtain ⟨w1, w2⟩ := line_wrap h2
    have hc : (if askB ⟨a, b⟩ l (p, bk, u') ⟨x1, x2⟩ then (0 : Int) else 1) = 0 := if_pos hA
    by_cases hj : withinB j 0 (p - 1) = true
    · have hL : LineIn ⟨a, b⟩ ⟨x1, x2⟩ (p, bk, u') j := ⟨okC_unit h1, h2, h3, hj⟩
      rw [lineR, grd_yes hA, grd_yes hj]
      (repeat' ((conv => whnf); (first | with_reducible apply And.intro | (with_reducible intro hh; first | (with_reducible have hx := NewRow.self hh; clear hx) | (with_reducible have hrow := Made.row hh; have hle := Made.le hh; have hmade := hh; clear hh) | (with_reducible have hx := Ext.self hh; clear hx) | (with_reducible have hx := SlV.self hh; clear hx) | (with_reducible have hx := Value.self hh; clear hx) | with_reducible cases hh | skip) | (with_reducible apply AllEq.mk; intro yy hq) | with_reducible apply trivial | with_reducible apply Exists.intro () | (with_reducible apply ex_side; (first | with_reducible assumption | with_reducible apply fracs1 | with_reducible apply fracs2 | with_reducible apply fracs3 | with_reducible apply spans1 | with_reducible apply spans2 | (with_reducible apply NewRow.keep; with_reducible assumption) | (with_reducible apply RowAt.keep; with_reducible assumption) | assumption | (focus ((repeat (first | with_reducible assumption | (with_reducible apply RowAt.le; rotate_left; with_reducible assumption) | (with_reducible apply RowB.le; rotate_left; with_reducible assumption))); done)))) | (with_reducible apply ex_side (a := (_, _)); (focus (with_reducible apply And.intro <;> (focus ((repeat (first | with_reducible assumption | (with_reducible apply RowAt.le; rotate_left; with_reducible assumption) | (with_reducible apply RowB.le; rotate_left; with_reducible assumption))); done))))))); (all_goals (conv => whnf)))
      (all_goals (try dsimp only [Q.eta, Sn.eta, SlV.eta] at *)); (all_goals (first | exact Side.mk trivial | with_reducible exact Side.mk rfl | exact Side.mk (fun _ _ h => h) | exact Side.mk (Made.le (by assumption)) | refine Side.mk ?_ | refine Don.mk ?_ | skip))
      all_goals subst_vars
      all_goals try simp only [hc, w1] at *
      all_goals first | exact hL | (exfalso; exact absurd (by assumption : ((0 : Int) != 0) = true) (by decide)) | (exfalso; rw [hj] at hh; cases hh; done) | rfl
    · have hj' : withinB j 0 (p - 1) = false := by simpa using hj
      rw [lineR, grd_yes hA, grd_no hj']
      (repeat' ((conv => whnf); (first | with_reducible apply And.intro | (with_reducible intro hh; first | (with_reducible have hx := NewRow.self hh; clear hx) | (with_reducible have hrow := Made.row hh; have hle := Made.le hh; have hmade := hh; clear hh) | (with_reducible have hx := Ext.self hh; clear hx) | (with_reducible have hx := SlV.self hh; clear hx) | (with_reducible have hx := Value.self hh; clear hx) | with_reducible cases hh | skip) | (with_reducible apply AllEq.mk; intro yy hq) | with_reducible apply trivial | with_reducible apply Exists.intro () | (with_reducible apply ex_side; (first | with_reducible assumption | with_reducible apply fracs1 | with_reducible apply fracs2 | with_reducible apply fracs3 | with_reducible apply spans1 | with_reducible apply spans2 | (with_reducible apply NewRow.keep; with_reducible assumption) | (with_reducible apply RowAt.keep; with_reducible assumption) | assumption | (focus ((repeat (first | with_reducible assumption | (with_reducible apply RowAt.le; rotate_left; with_reducible assumption) | (with_reducible apply RowB.le; rotate_left; with_reducible assumption))); done)))) | (with_reducible apply ex_side (a := (_, _)); (focus (with_reducible apply And.intro <;> (focus ((repeat (first | with_reducible assumption | (with_reducible apply RowAt.le; rotate_left; with_reducible assumption) | (with_reducible apply RowB.le; rotate_left; with_reducible assumption))); done))))))); (all_goals (conv => whnf)))
      (all_goals (try dsimp only [Q.eta, Sn.eta, SlV.eta] at *)); (all_goals (first | exact Side.mk trivial | with_reducible exact Side.mk rfl | exact Side.mk (fun _ _ h => h) | exact Side.mk (Made.le (by assumption)) | refine Side.mk ?_ | refine Don.mk ?_ | skip))
      all_goals try simp only [hc, w1] at *
      all_goals first | rfl | (exfalso; exact absurd (by assumption : ((0 : Int) != 0) = true) (by decide)) | (exfalso; rw [hj'] at hh; cases hh; done)
  · have hA' : askB ⟨a, b⟩ l (p, bk, u') ⟨x1, x2⟩ = false := by simpa using hA
    have hc : (if askB ⟨a, b⟩ l (p, bk, u') ⟨x1, x2⟩ then (0 : Int) else 1) = 1 := if_neg hA
    rw [lineR, grd_no hA']
    (repeat' ((conv => whnf); (first | with_reducible apply And.intro | (with_reducible intro hh; first | (with_reducible have hx := NewRow.self hh; clear hx) | (with_reducible have hrow := Made.row hh; have hle := Made.le hh; have hmade := hh; clear hh) | (with_reducible have hx := Ext.self hh; clear hx) | (with_reducible have hx := SlV.self hh; clear hx) | (with_reducible have hx := Value.self hh; clear hx) | with_reducible cases hh | skip) | (with_reducible apply AllEq.mk; intro yy hq) | with_reducible apply trivial | with_reducible apply Exists.intro () | (with_reducible apply ex_side; (first | with_reducible assumption | with_reducible apply fracs1 | with_reducible apply fracs2 | with_reducible apply fracs3 | with_reducible apply spans1 | with_reducible apply spans2 | (with_reducible apply NewRow.keep; with_reducible assumption) | (with_reducible apply RowAt.keep; with_reducible assumption) | assumption | (focus ((repeat (first | with_reducible assumption | (with_reducible apply RowAt.le; rotate_left; with_reducible assumption) | (with_reducible apply RowB.le; rotate_left; with_reducible assumption))); done)))) | (with_reducible apply ex_side (a := (_, _)); (focus (with_reducible apply And.intro <;> (focus ((repeat (first | with_reducible assumption | (with_reducible apply RowAt.le; rotate_left; with_reducible assumption) | (with_reducible apply RowB.le; rotate_left; with_reducible assumption))); done))))))); (all_goals (conv => whnf)))
    (all_goals (try dsimp only [Q.eta, Sn.eta, SlV.eta] at *)); (all_goals (first | exact Side.mk trivial | with_reducible exact Side.mk rfl | exact Side.mk (fun _ _ h => h) | exact Side.mk (Made.le (by assumption)) | refine Side.mk ?_ | refine Don.mk ?_ | skip))
    all_goals try simp only [hc] at *
    all_goals first | rfl | (exfalso; exact absurd (by assumption : ((1 : Int) != 0) = false) (by decide))

end Go.Proofs.Ytbgjokadfkblmab
