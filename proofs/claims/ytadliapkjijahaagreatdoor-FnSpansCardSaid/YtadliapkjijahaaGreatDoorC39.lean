/- Contracts of the reference's functions that multiply spans; conditions: the bounds that each names. -/
import Derived.Test.YtadliapkjijahaaGreatDoorAb
import Derived.Test.YtadliapkjijahaaGreatDoorC1
import Derived.Test.YtadliapkjijahaaGreatDoorC2
import Derived.Test.YtadliapkjijahaaGreatDoorC3
import Derived.Test.YtadliapkjijahaaGreatDoorC4
import Derived.Test.YtadliapkjijahaaGreatDoorC5
import Derived.Test.YtadliapkjijahaaGreatDoorCL
import Derived.Test.YtadliapkjijahaaGreatDoorC6
import Derived.Test.YtadliapkjijahaaGreatDoorC7
import Derived.Test.YtadliapkjijahaaGreatDoorC8
import Derived.Test.YtadliapkjijahaaGreatDoorC9
import Derived.Test.YtadliapkjijahaaGreatDoorCO
import Derived.Test.YtadliapkjijahaaGreatDoorC10
import Derived.Test.YtadliapkjijahaaGreatDoorCN
import Derived.Test.YtadliapkjijahaaGreatDoorProg
set_option linter.unusedVariables false
set_option linter.unusedSimpArgs false
namespace Go.Proofs.YtadliapkjijahaaGreatDoor
open Ab

def minQ (a p : Q) : Q := if cmpQ p a < 0 then p else a
def maxQ (a p : Q) : Q := if cmpQ p a > 0 then p else a
/-- The least and the greatest of what comes, if all of it is there. -/
def goM : List (Option Q) → Sn → Option Sn
  | [], a => some a
  | o :: r, a => o.bind fun p => goM r ⟨minQ a.lo p, maxQ a.hi p⟩
def proO (s t : Sn) : List (Option Q) := [mulO s.lo t.lo, mulO s.lo t.hi, mulO s.hi t.lo, mulO s.hi t.hi]
def timO (s t : Sn) : Option Sn := (mulO s.lo t.lo).bind fun p => goM [mulO s.lo t.hi, mulO s.hi t.lo, mulO s.hi t.hi] ⟨p, p⟩
theorem minQ_ok {a p : Q} (ha : okQ a = true) (hp : okQ p = true) : okQ (minQ a p) = true := by unfold minQ; split <;> assumption
theorem maxQ_ok {a p : Q} (ha : okQ a = true) (hp : okQ p = true) : okQ (maxQ a p) = true := by unfold maxQ; split <;> assumption
abbrev timSp : Sp := .pf S2 (fun x => okP x.1 ∧ okP x.2.1) (fun x => RS (outS (timO x.1 x.2.1)))
/-- A valid fraction, or nothing yet. -/
def okZ (a : Q) : Prop := okQ a = true ∨ a = ⟨0, 0⟩
theorem okZ_b {a : Q} (h : okZ a) : (-1000000000 ≤ a.p ∧ a.p ≤ 1000000000) ∧ (-1000000000 ≤ a.q ∧ a.q ≤ 1000000000) := by
  rcases h with h | rfl
  · obtain ⟨h1, h2, h3, h4, _⟩ := okQ_iff.1 h
    omega
  · decide
theorem okZ_w {a b : Q} (ha : okZ a) (hb : okZ b) : IntKind.i64.wrap (a.p * b.q) = a.p * b.q ∧ IntKind.i64.wrap (b.p * a.q) = b.p * a.q := by
  have h1 := okZ_b ha
  have h2 := okZ_b hb
  exact ⟨wrap18 (mul_b h1.1 h2.2), wrap18 (mul_b h2.1 h1.2)⟩
abbrev cmpZSp : Sp := .pf F2 (fun x => okZ x.1 ∧ okZ x.2.1) (fun x => .int .i64 (cmpQ x.1 x.2.1))
set_option maxRecDepth 100000 in
theorem spcmpz_ok : Sp.ok Tryz.prog 92 cmpZSp := by
  refine Sp.pf_ok (T := ⟨[], []⟩) follows eqok0 trivial [] Tryz.func92 rfl (by kernel_rfl) _ _ _ fun x E hp => ?_
  obtain ⟨⟨a, c⟩, ⟨d, e⟩, u⟩ := x
  obtain ⟨h1, h2⟩ := okZ_w hp.1 hp.2
  dsimp only at h1 h2
  (repeat' ((conv => whnf); (first | with_reducible apply And.intro | (with_reducible intro hh; first | (with_reducible have hx := NewRow.self hh; clear hx) | (with_reducible have hrow := Made.row hh; have hle := Made.le hh; have hmade := hh; clear hh) | (with_reducible have hrow := Fresh.rowS hh; have hle := Fresh.leS hh; have hfr := hh; clear hh) | (with_reducible have hx := Ext.self hh; clear hx) | (with_reducible have hx := SlV.self hh; clear hx) | (with_reducible have hx := Value.self hh; clear hx) | with_reducible cases hh | skip) | (with_reducible apply AllEq.mk; intro yy hq) | with_reducible apply trivial | with_reducible apply Exists.intro () | (with_reducible apply ex_side; (first | with_reducible assumption | with_reducible apply fracs1 | with_reducible apply fracs2 | with_reducible apply fracs3 | with_reducible apply spans1 | with_reducible apply spans2 | (with_reducible apply NewRow.keep; with_reducible assumption) | (with_reducible apply RowAt.keep; with_reducible assumption) | assumption | (focus ((repeat (first | with_reducible assumption | (with_reducible apply RowAt.le; rotate_left; with_reducible assumption) | (with_reducible apply RowB.le; rotate_left; with_reducible assumption))); done)))) | (with_reducible apply ex_side (a := (_, _)); (focus (with_reducible apply And.intro <;> (focus ((repeat (first | with_reducible assumption | (with_reducible apply RowAt.le; rotate_left; with_reducible assumption) | (with_reducible apply RowB.le; rotate_left; with_reducible assumption))); done))))))); (all_goals (conv => whnf)))
  (all_goals (try dsimp only [Q.eta, Sn.eta, SlV.eta] at *)); (all_goals (first | exact Side.mk trivial | with_reducible exact Side.mk rfl | exact Side.mk (fun _ _ h => h) | exact Side.mk (Made.le (by assumption)) | refine Side.mk ?_ | refine Don.mk ?_ | skip))
  all_goals simp only [h1, h2] at *
  all_goals simp_all [cmpQ]
  all_goals (repeat' split) <;> omega
/-- The products behind the first k have been looked at: p is the code that came, y what has been found. -/
def TimI (s t : Sn) (k : Nat) (p : Int) (y : Sn) : Prop := (p = 0 ∧ okP y ∧ timO s t = goM ((proO s t).drop k) y) ∨ (p = 3 ∧ timO s t = none ∧ okZ y.lo ∧ okZ y.hi)
theorem TimI.z {s t : Sn} {k : Nat} {p : Int} {y : Sn} (h : TimI s t k p y) : okZ y.lo ∧ okZ y.hi := by
  rcases h with ⟨_, h, _⟩ | ⟨_, _, h⟩
  · exact ⟨.inl h.1, .inl h.2⟩
  · exact h
theorem TimI.zero_some {s t : Sn} {q : Q} (h : mulO s.lo t.lo = some q) : TimI s t 1 0 ⟨q, q⟩ := by
  refine .inl ⟨rfl, ⟨mulO_ok h, mulO_ok h⟩, ?_⟩
  unfold timO
  rw [h]
  rfl
theorem TimI.zero_none {s t : Sn} {k : Nat} (h : mulO s.lo t.lo = none) : TimI s t k 3 ⟨⟨0, 0⟩, ⟨0, 0⟩⟩ := by
  refine .inr ⟨rfl, ?_, .inr rfl, .inr rfl⟩
  unfold timO
  rw [h]
  rfl
theorem TimI.bad {s t : Sn} {k : Nat} {p : Int} {y : Sn} (h : TimI s t k p y) {o : Option Q} (ho : (proO s t)[k]? = some o) (h0 : o = none) : TimI s t (k + 1) 3 y := by
  rcases h with ⟨_, h, hT⟩ | ⟨_, hT, h⟩
  · refine .inr ⟨rfl, ?_, .inl h.1, .inl h.2⟩
    rw [hT, List.drop_eq_getElem?_toList_append, ho, h0]
    rfl
  · exact .inr ⟨rfl, hT, h⟩
theorem TimI.good {s t : Sn} {k : Nat} {p : Int} {y : Sn} (h : TimI s t k p y) {o : Option Q} {q : Q} (ho : (proO s t)[k]? = some o) (h0 : o = some q) (hq : okQ q = true) : TimI s t (k + 1) p ⟨minQ y.lo q, maxQ y.hi q⟩ := by
  rcases h with ⟨h1, h, hT⟩ | ⟨h1, hT, h⟩
  · refine .inl ⟨h1, ⟨minQ_ok h.1 hq, maxQ_ok h.2 hq⟩, ?_⟩
    rw [hT, List.drop_eq_getElem?_toList_append, ho, h0]
    rfl
  · refine .inr ⟨h1, hT, ?_, ?_⟩
    · dsimp only; unfold minQ; split
      · exact .inl hq
      · exact h.1
    · dsimp only; unfold maxQ; split
      · exact .inl hq
      · exact h.2
theorem TimI.out {s t : Sn} {p : Int} {y : Sn} (h : TimI s t 4 p y) : outS (timO s t) = (if p = 0 then y else ⟨⟨0, 0⟩, ⟨0, 0⟩⟩, p) := by
  rcases h with ⟨rfl, h, hT⟩ | ⟨rfl, hT, h⟩
  · rw [hT]; rfl
  · rw [hT]; rfl
theorem TimI.goodAt {s t : Sn} {k : Nat} {p : Int} {y : Sn} (h : TimI s t k p y) {o : Option Q} {q l u : Q} (ho : (proO s t)[k]? = some o) (h0 : o = some q) (hq : okQ q = true) (hl : l = minQ y.lo q) (hu : u = maxQ y.hi q) : TimI s t (k + 1) p ⟨l, u⟩ := by
  rw [hl, hu]
  exact h.good ho h0 hq
theorem pro_bad {o : Option Q} {yy : Q × Int} (h : yy = outO o) (hb : (yy.2 != 0) = true) : o = none ∧ yy.2 = 3 := by
  subst h
  cases o with
  | none => exact ⟨rfl, rfl⟩
  | some q => cases hb
theorem pro_good {o : Option Q} {yy : Q × Int} (h : yy = outO o) (hb : (yy.2 != 0) = false) : o = some yy.1 := by
  subst h
  cases o with
  | none => cases hb
  | some q => rfl
theorem pro_z {a b : Q} {yy : Q × Int} (h : yy = outO (mulO a b)) (hb : (yy.2 != 0) = false) : okZ yy.1 := .inl (mulO_ok (pro_good h hb))
theorem don_rs {o : Sn × Int} {s : Sn} {p : Int} (h : o = (s, p)) : Don (AV.v (RS (s, p)) = AV.v (RS o)) := by rw [h]; exact Don.mk rfl
theorem min_yes {a p : Q} (h : decide (cmpQ p a < 0) = true) : p = minQ a p := (if_pos (of_decide_eq_true h)).symm
theorem min_no {a p : Q} (h : decide (cmpQ p a < 0) = false) : a = minQ a p := (if_neg (of_decide_eq_false h)).symm
theorem max_yes {a p : Q} (h : decide (cmpQ p a > 0) = true) : p = maxQ a p := (if_pos (of_decide_eq_true h)).symm
theorem max_no {a p : Q} (h : decide (cmpQ p a > 0) = false) : a = maxQ a p := (if_neg (of_decide_eq_false h)).symm
theorem TimI.bad0 {s t : Sn} {yy : Q × Int} (h : yy = outO (mulO s.lo t.lo)) (hb : (yy.2 != 0) = true) : TimI s t 1 yy.2 ⟨⟨0, 0⟩, ⟨0, 0⟩⟩ := by
  obtain ⟨e, e2⟩ := pro_bad h hb
  rw [e2]
  exact TimI.zero_none e
theorem TimI.good0 {s t : Sn} {yy : Q × Int} (h : yy = outO (mulO s.lo t.lo)) (hb : (yy.2 != 0) = false) : TimI s t 1 0 ⟨yy.1, yy.1⟩ := TimI.zero_some (pro_good h hb)
theorem TimI.badK {s t : Sn} {k : Nat} {p : Int} {y : Sn} (hI : TimI s t k p y) {a b : Q} (ho : (proO s t)[k]? = some (mulO a b)) {yy : Q × Int} (h : yy = outO (mulO a b)) (hb : (yy.2 != 0) = true) : TimI s t (k + 1) yy.2 y := by
  obtain ⟨e, e2⟩ := pro_bad h hb
  rw [e2]
  exact hI.bad ho e
theorem TimI.goodK {s t : Sn} {k : Nat} {p : Int} {y : Sn} (hI : TimI s t k p y) {a b : Q} (ho : (proO s t)[k]? = some (mulO a b)) {yy : Q × Int} (h : yy = outO (mulO a b)) (hb : (yy.2 != 0) = false) {l u : Q} (hl : l = minQ y.lo yy.1) (hu : u = maxQ y.hi yy.1) : TimI s t (k + 1) p ⟨l, u⟩ :=
  hI.goodAt ho (pro_good h hb) (mulO_ok (pro_good h hb)) hl hu

end Go.Proofs.YtadliapkjijahaaGreatDoor
