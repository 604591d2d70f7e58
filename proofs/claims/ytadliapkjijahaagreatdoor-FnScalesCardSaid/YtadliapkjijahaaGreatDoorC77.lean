/- The scale that is drawn: it is valid, with small parts; conditions: the bounds that each names. -/
import Derived.Test.YtadliapkjijahaaGreatDoorAb
import Derived.Test.YtadliapkjijahaaGreatDoorC1
import Derived.Test.YtadliapkjijahaaGreatDoorC2
import Derived.Test.YtadliapkjijahaaGreatDoorC3
import Derived.Test.YtadliapkjijahaaGreatDoorC4
import Derived.Test.YtadliapkjijahaaGreatDoorC5
import Derived.Test.YtadliapkjijahaaGreatDoorCL
import Derived.Test.YtadliapkjijahaaGreatDoorC6
import Derived.Test.YtadliapkjijahaaGreatDoorC7
import Derived.Test.YtadliapkjijahaaGreatDoorC8
import Derived.Test.YtadliapkjijahaaGreatDoorC9
import Derived.Test.YtadliapkjijahaaGreatDoorCO
import Derived.Test.YtadliapkjijahaaGreatDoorC10
import Derived.Test.YtadliapkjijahaaGreatDoorC12
import Derived.Test.YtadliapkjijahaaGreatDoorC14
import Derived.Test.YtadliapkjijahaaGreatDoorC24
import Derived.Test.YtadliapkjijahaaGreatDoorC25
import Derived.Test.YtadliapkjijahaaGreatDoorC30
import Derived.Test.YtadliapkjijahaaGreatDoorCK
import Derived.Test.YtadliapkjijahaaGreatDoorCG
import Derived.Test.YtadliapkjijahaaGreatDoorCN
import Derived.Test.YtadliapkjijahaaGreatDoorC70
import Derived.Test.YtadliapkjijahaaGreatDoorC72
import Derived.Test.YtadliapkjijahaaGreatDoorC76
import Derived.Test.YtadliapkjijahaaGreatDoorProg
set_option linter.unusedVariables false
set_option linter.unusedSimpArgs false
namespace Go.Proofs.YtadliapkjijahaaGreatDoor
open Ab

/-! memory but for one block -/
def lessX (E : Ext) (b : Nat) : Ext := ⟨fun a => if a.block = b then none else E a, fun c => if c = b then none else E.own c⟩
theorem extX_of {E E' : Ext} (h : ∀ a, E a = E' a) (k : ∀ b, E.own b = E'.own b) : E = E' := by
  obtain ⟨g, o⟩ := E
  obtain ⟨g', o'⟩ := E'
  rw [show g = g' from funext h, show o = o' from funext k]
theorem less_at {E : Ext} {b : Nat} {a : Addr} (h : a.block ≠ b) : (lessX E b) a = E a := if_neg h
theorem less_no {E : Ext} {b : Nat} {a : Addr} (h : a.block = b) : (lessX E b) a = none := if_pos h
theorem less_own {E : Ext} {b c : Nat} (h : c ≠ b) : (lessX E b).own c = E.own c := if_neg h
theorem less_ownn {E : Ext} {b : Nat} : (lessX E b).own b = none := if_pos rfl
theorem less_some {E : Ext} {b : Nat} {a : Addr} {v : Value} (h : (lessX E b) a = some v) : a.block ≠ b ∧ E a = some v := by
  by_cases hb : a.block = b
  · rw [less_no hb] at h; cases h
  · exact ⟨hb, by rw [less_at hb] at h; exact h⟩
theorem less_osome {E : Ext} {b c : Nat} {p : Nat × TypeId} (h : (lessX E b).own c = some p) : c ≠ b ∧ E.own c = some p := by
  by_cases hb : c = b
  · rw [hb, less_ownn] at h; cases h
  · exact ⟨hb, by rw [less_own hb] at h; exact h⟩
theorem SrcOn.lessE {b : Nat} {bs : List Int} {s : Src} {n : Nat} {E E' : Ext} (h : SrcOn b bs s n E E') : lessX E' b = lessX E b :=
  extX_of (fun a => by
    by_cases hb : a.block = b
    · rw [less_no hb, less_no hb]
    · rw [less_at hb, less_at hb, h.rest a hb]) (fun c => by
    by_cases hb : c = b
    · rw [hb, less_ownn, less_ownn]
    · rw [less_own hb, less_own hb, h.own])
theorem new_off {E : Ext} {cs : List Value} {e : TypeId} (r : NewRow E cs e) {b : Nat} {p : Nat × TypeId} (ho : E.own b = some p) : r.b ≠ b := fun h => by have := r.fresho; rw [h, ho] at this; cases this
/-- A new row is one in less memory, too. -/
def newLess {E : Ext} {cs : List Value} {e : TypeId} (r : NewRow E cs e) (b : Nat) : NewRow (lessX E b) cs e :=
  ⟨r.b, fun a v h => r.fresh a v (less_some h).2, by
    by_cases hb : r.b = b
    · rw [hb, less_ownn]
    · rw [less_own hb, r.fresho]⟩
theorem newLess_to {E : Ext} {cs : List Value} {e : TypeId} (r : NewRow E cs e) {b : Nat} {p : Nat × TypeId} (ho : E.own b = some p) : lessX r.to b = (newLess r b).to := by
  have hne := new_off r ho
  refine extX_of (fun a => ?_) (fun c => ?_)
  · by_cases hb : a.block = b
    · rw [less_no hb, new_at (newLess r b) (by rw [hb]; exact fun h => hne h.symm), less_no hb]
    · rw [less_at hb]
      by_cases hr : a.block = r.b
      · by_cases hs : a.spot = none
        · obtain ⟨b1, o1, s1⟩ := a
          dsimp only at hr hs
          subst hr hs
          exact (r.at_ o1).trans ((newLess r b).at_ o1).symm
        · unfold NewRow.to Ext.with
          dsimp only
          rw [if_neg (fun h => hs h.2), if_neg (fun h => hs h.2), less_at hb]
      · rw [new_at r hr, new_at (newLess r b) hr, less_at hb]
  · by_cases hb : c = b
    · rw [hb, less_ownn, new_own' (newLess r b) (fun h => hne h.symm), less_ownn]
    · rw [less_own hb]
      by_cases hr : c = r.b
      · subst hr
        rw [new_own]
        exact (new_own (newLess r b)).symm
      · rw [new_own' r hr, new_own' (newLess r b) hr, less_own hb]
theorem ownMore {E : Ext} {b : Nat} {e : TypeId} {sz : Nat} {s : SlV} {xs : List Value} (h : OwnRow (lessX E b) e sz s xs) : OwnRow E e sz s xs ∧ ∀ a, s.a = some a → a.block ≠ b := by
  obtain ⟨h1, h2, h3, h4⟩ := h
  rcases h4 with ⟨k1, k2, k3⟩ | ⟨c, k1, k2, k3⟩
  · exact ⟨⟨h1, h2, h3, .inl ⟨k1, k2, k3⟩⟩, fun a ha => by rw [k1] at ha; cases ha⟩
  · obtain ⟨hne, ho⟩ := less_osome k2
    exact ⟨⟨h1, h2, h3, .inr ⟨c, k1, ho, fun j => (less_at (a := ⟨c, j, none⟩) hne).symm.trans (k3 j)⟩⟩, fun a ha => by rw [k1] at ha; cases ha; exact hne⟩
theorem ownLess {E : Ext} {b : Nat} {e : TypeId} {sz : Nat} {s : SlV} {xs : List Value} (h : OwnRow E e sz s xs) (ha : ∀ a, s.a = some a → a.block ≠ b) : OwnRow (lessX E b) e sz s xs := by
  obtain ⟨h1, h2, h3, h4⟩ := h
  rcases h4 with h4 | ⟨c, k1, k2, k3⟩
  · exact ⟨h1, h2, h3, .inl h4⟩
  · have hne := ha _ k1
    exact ⟨h1, h2, h3, .inr ⟨c, k1, by rw [less_own hne]; exact k2, fun j => (less_at (a := ⟨c, j, none⟩) hne).trans (k3 j)⟩⟩
theorem appLess {E E2 : Ext} {e : TypeId} {sz : Nat} {s x r : SlV} {y : List Value × List Value} {b : Nat} {p : Nat × TypeId} (h : AppPost E e sz s x y r E2) (ho : E.own b = some p) (ha : ∀ a, s.a = some a → a.block ≠ b) : AppPost (lessX E b) e sz s x y r (lessX E2 b) := by
  have hr : ∀ a, r.a = some a → a.block ≠ b := fun a hra => by
    rcases h.fresh a hra with k | ⟨_, k⟩
    · exact ha a k
    · intro hb
      rw [hb, ho] at k
      cases k
  refine ⟨ownLess h.own hr, h.n, fun a v hv => ?_, fun c q hc hq => ?_, fun a hra => ?_⟩
  · obtain ⟨k1, k2⟩ := less_some hv
    rw [less_at k1]
    exact h.le _ _ k2
  · obtain ⟨k1, k2⟩ := less_osome hq
    obtain ⟨k3, k4⟩ := h.other c q hc k2
    refine ⟨by rw [less_own k1]; exact k3, fun a hca => ?_⟩
    have hab : a.block ≠ b := by rw [hca]; exact k1
    rw [less_at hab, less_at hab]
    exact k4 a hca
  · rcases h.fresh a hra with k | ⟨k1, k2⟩
    · exact .inl k
    · exact .inr ⟨fun a' v hv => k1 a' v (less_some hv).2, by
        by_cases hb : a.block = b
        · rw [hb, less_ownn]
        · rw [less_own hb]; exact k2⟩
theorem SrcAt.app {b : Nat} {bs : List Int} {s : Src} {E E' : Ext} (h : SrcAt b bs s E) (hle : Ext.le E E') (ho : E'.own b = E.own b) : SrcAt b bs s E' :=
  ⟨ho.trans h.own, hle _ _ h.c0, hle _ _ h.c1, hle _ _ h.c2, RowAt.le h.row hle, h.apart, h.bytes⟩
theorem drw_push {b : Nat} {bs : List Int} {s : Src} {E E' E2 : Ext} {e e' : TypeId} {o o' : SlV} {q : List Q} {x : Q} (hs : SrcAt b bs s E') (hg : Grow e 2 Q.cells (lessX E b) o q (lessX E' b)) (r : NewRow E' x.cells e') {c' : Nat} (hp : AppPost r.to e 2 o ⟨some ⟨r.b, 0, none⟩, 1, c'⟩ (q.flatMap Q.cells, x.cells) o' E2) : SrcAt b bs s E2 ∧ Grow e 2 Q.cells (lessX E b) o' (q ++ [x]) (lessX E2 b) := by
  have hne := new_off r hs.own
  have ho : r.to.own b = some _ := (new_own' r (fun h => hne h.symm)).trans hs.own
  have ha := (ownMore hg.own).2
  have h2 := appLess hp ho ha
  rw [newLess_to r hs.own] at h2
  exact ⟨hs.app (Ext.le_trans r.le hp.le) ((hp.other b _ ha ho).1.trans hs.own.symm), Grow.push hg (newLess r b) h2⟩
/-! errors and units with small parts -/
structure SmallE (u e : Q) : Prop where
  ok : okQ e = true
  val : ∃ j : Int, -4 ≤ j ∧ j ≤ 4 ∧ vq e = (j : Rat) * vq u / 16
  p : e.p.natAbs ≤ 24
  q : e.q ≤ 64
structure SmallC (u : Q) (l : List Q) : Prop where
  ok : okQ u = true
  p1 : 1 ≤ u.p
  p6 : u.p ≤ 6
  q4 : u.q ≤ 4
  errs : ∀ e ∈ l, SmallE u e
  len2 : 2 ≤ l.length
  len : l.length ≤ 60
theorem unit_small {a c : Int} (a0 : 0 ≤ a) (a6 : a < 6) (c0 : 0 ≤ c) (c4 : c < 4) : okQ (redQ (1 + a) (1 + c)) = true ∧ 1 ≤ (redQ (1 + a) (1 + c)).p ∧ (redQ (1 + a) (1 + c)).p ≤ 6 ∧ (redQ (1 + a) (1 + c)).q ≤ 4 ∧ 1 ≤ (redQ (1 + a) (1 + c)).q := by
  obtain ⟨o1, e1, b1, c1, _⟩ := red_small' (p := 1 + a) (q := 1 + c) (by omega) (by omega) (by omega)
  have h1 := okQ_pos o1
  have hp : (0 : Rat) < ((1 + a : Int) : Rat) := rat_pos (by omega)
  have hq : (0 : Rat) < ((1 + c : Int) : Rat) := rat_pos (by omega)
  have hr : (0 : Rat) < ((redQ (1 + a) (1 + c)).q : Rat) := rat_pos h1
  have hx : (0 : Rat) < ((1 + a : Int) : Rat) / ((1 + c : Int) : Rat) := by rw [Rat.lt_div_iff hq]; grind
  have hpp : 0 < (redQ (1 + a) (1 + c)).p := by
    have : (0 : Rat) < ((redQ (1 + a) (1 + c)).p : Rat) := by rw [← vq_mul h1, e1]; exact Rat.mul_pos hx hr
    exact_mod_cast this
  exact ⟨o1, by omega, by omega, by omega, by omega⟩
theorem zero_small (u : Q) : SmallE u ⟨0, 1⟩ := by
  refine ⟨by decide, ⟨0, by omega, by omega, ?_⟩, by decide, by decide⟩
  have h1 : ((0 : Int) : Rat) = 0 := rfl
  unfold vq
  show ((0 : Int) : Rat) / ((1 : Int) : Rat) = _
  rw [h1]
  grind
theorem err_small {u : Q} {j : Int} (ou : okQ u = true) (p1 : 1 ≤ u.p) (p6 : u.p ≤ 6) (q4 : u.q ≤ 4) (j1 : -4 ≤ j) (j2 : j ≤ 4) : SmallE u (redQ (j * u.p) (16 * u.q)) := by
  have hu := okQ_pos ou
  have hb : (j * u.p).natAbs ≤ 24 := nm_mul (a := 4) (b := 6) (by omega) (by omega) (by omega)
  obtain ⟨o2, e2, b2, c2, _⟩ := red_small' (p := j * u.p) (q := 16 * u.q) (by omega) (by omega) (by omega)
  have h2 := okQ_pos o2
  refine ⟨o2, ⟨j, j1, j2, ?_⟩, by omega, by omega⟩
  rw [e2]
  simp only [Rat.intCast_mul]
  have : ((16 : Int) : Rat) = 16 := rfl
  rw [this]
  have hq := rat_pos hu
  unfold vq
  grind
/-! draws -/
abbrev diceSp : Sp := .nf PI1 (fun x (l : Nat × List Int × Src) E => x.1 = ⟨l.1, 0, none⟩ ∧ SrcAt l.1 l.2.1 l.2.2 E ∧ l.2.2.at_ ≤ 900000000 ∧ x.2.1 ≤ 1000000000) (fun _ _ (y : Bool) => .bool y) (fun _ l _ E E' => Side (SrcOn l.1 l.2.1 l.2.2 2 E E'))
set_option maxRecDepth 100000 in
theorem dice_ok : Sp.ok Tryz.prog 113 diceSp := by
  refine Sp.nf_ok (T := ⟨[(42, pickSp)], []⟩) follows eqok0 ⟨enters Tryz.func42 rfl rfl, pick_ok, trivial⟩ [] Tryz.func113 rfl (by kernel_rfl) _ _ _ _ fun x l E hp => ?_
  obtain ⟨a, n, u⟩ := x
  obtain ⟨b, bs, s⟩ := l
  obtain ⟨rfl, hs, hk, hn⟩ := hp
  dsimp only at hk hn
  (repeat' ((conv => whnf); (first | with_reducible apply And.intro | (with_reducible intro hh; first | (with_reducible have hx := NewRow.self hh; clear hx) | (with_reducible have hrow := Made.row hh; have hle := Made.le hh; have hmade := hh; clear hh) | (with_reducible have hrow := Fresh.rowS hh; have hle := Fresh.leS hh; have hfr := hh; clear hh) | (with_reducible have hx := Ext.self hh; clear hx) | (with_reducible have hx := SlV.self hh; clear hx) | (with_reducible have hx := Value.self hh; clear hx) | with_reducible cases hh | skip) | (with_reducible apply AllEq.mk; intro yy hq) | with_reducible apply trivial | with_reducible apply Exists.intro () | (with_reducible apply ex_side; (first | with_reducible assumption | with_reducible apply fracs1 | with_reducible apply fracs2 | with_reducible apply fracs3 | with_reducible apply spans1 | with_reducible apply spans2 | (with_reducible apply NewRow.keep; with_reducible assumption) | (with_reducible apply RowAt.keep; with_reducible assumption) | assumption | (focus ((repeat (first | with_reducible assumption | (with_reducible apply RowAt.le; rotate_left; with_reducible assumption) | (with_reducible apply RowB.le; rotate_left; with_reducible assumption))); done)))) | (with_reducible apply ex_side (a := (_, _)); (focus (with_reducible apply And.intro <;> (focus ((repeat (first | with_reducible assumption | (with_reducible apply RowAt.le; rotate_left; with_reducible assumption) | (with_reducible apply RowB.le; rotate_left; with_reducible assumption))); done))))))); (all_goals (conv => whnf)))
  (all_goals (try dsimp only [Q.eta, Sn.eta, SlV.eta] at *)); (all_goals (first | exact Side.mk trivial | with_reducible exact Side.mk rfl | exact Side.mk (fun _ _ h => h) | exact Side.mk (Made.le (by assumption)) | refine Side.mk ?_ | refine Don.mk ?_ | skip))
  refine ⟨(b, bs, s), Side.mk ⟨rfl, hs, hk, hn⟩, fun y E1 h1 => ?_⟩
  obtain ⟨h1, _⟩ := h1.out
  (repeat' ((conv => whnf); (first | with_reducible apply And.intro | (with_reducible intro hh; first | (with_reducible have hx := NewRow.self hh; clear hx) | (with_reducible have hrow := Made.row hh; have hle := Made.le hh; have hmade := hh; clear hh) | (with_reducible have hrow := Fresh.rowS hh; have hle := Fresh.leS hh; have hfr := hh; clear hh) | (with_reducible have hx := Ext.self hh; clear hx) | (with_reducible have hx := SlV.self hh; clear hx) | (with_reducible have hx := Value.self hh; clear hx) | with_reducible cases hh | skip) | (with_reducible apply AllEq.mk; intro yy hq) | with_reducible apply trivial | with_reducible apply Exists.intro () | (with_reducible apply ex_side; (first | with_reducible assumption | with_reducible apply fracs1 | with_reducible apply fracs2 | with_reducible apply fracs3 | with_reducible apply spans1 | with_reducible apply spans2 | (with_reducible apply NewRow.keep; with_reducible assumption) | (with_reducible apply RowAt.keep; with_reducible assumption) | assumption | (focus ((repeat (first | with_reducible assumption | (with_reducible apply RowAt.le; rotate_left; with_reducible assumption) | (with_reducible apply RowB.le; rotate_left; with_reducible assumption))); done)))) | (with_reducible apply ex_side (a := (_, _)); (focus (with_reducible apply And.intro <;> (focus ((repeat (first | with_reducible assumption | (with_reducible apply RowAt.le; rotate_left; with_reducible assumption) | (with_reducible apply RowB.le; rotate_left; with_reducible assumption))); done))))))); (all_goals (conv => whnf)))
  (all_goals (try dsimp only [Q.eta, Sn.eta, SlV.eta] at *)); (all_goals (first | exact Side.mk trivial | with_reducible exact Side.mk rfl | exact Side.mk (fun _ _ h => h) | exact Side.mk (Made.le (by assumption)) | refine Side.mk ?_ | refine Don.mk ?_ | skip))
  exact ⟨_, rfl, Side.mk h1⟩
abbrev drawnSp : Sp := .nf PI1 (fun x (l : Nat × List Int × Src) E => x.1 = ⟨l.1, 0, none⟩ ∧ SrcAt l.1 l.2.1 l.2.2 E ∧ l.2.2.at_ ≤ 800000000 ∧ 2 ≤ x.2.1 ∧ x.2.1 ≤ 50) (fun _ _ (y : Scl × List Q) => y.1.v) (fun x l y E E' => Side (FracsAt y.1.errs y.2 E' ∧ SmallC y.1.unit y.2 ∧ x.2.1 ≤ y.2.length ∧ Keeps (lessX E l.1) (lessX E' l.1)))

set_option maxHeartbeats 8000000 in
set_option maxRecDepth 100000 in
theorem drawn_ok : Sp.ok Tryz.prog 77 drawnSp := by
  refine Sp.nf_ok (T := ⟨[(42, pickSp), (113, diceSp), (41, reducedSp), (85, wholeSp)], []⟩) follows eqok0 ⟨enters Tryz.func42 rfl rfl, pick_ok, enters Tryz.func113 rfl rfl, dice_ok, enters Tryz.func41 rfl rfl, reduced_ok, enters Tryz.func85 rfl rfl, whole_ok, trivial⟩ [(9, .take 0 (.take 3 (.take 4 (.take 6 (.take 7 (.take 8 (.alt 1 (.take 2 (.take 5 (.alt 9 (.take 10 (.take 11 (.take 12 (.alt 13 (.done) (.last))))) (.last)))) (.last))))))))] Tryz.func77 rfl (by kernel_rfl) _ _ _ _ fun x l E hp => ?_
  obtain ⟨a, n, u⟩ := x
  obtain ⟨b, bs, ⟨sl, k0, d0⟩⟩ := l
  obtain ⟨rfl, hs, hk, hn2, hn⟩ := hp
  dsimp only at hk hn2 hn
  (repeat' ((conv => whnf); (first | with_reducible apply And.intro | (with_reducible intro hh; first | (with_reducible have hx := NewRow.self hh; clear hx) | (with_reducible have hrow := Made.row hh; have hle := Made.le hh; have hmade := hh; clear hh) | (with_reducible have hrow := Fresh.rowS hh; have hle := Fresh.leS hh; have hfr := hh; clear hh) | (with_reducible have hx := Ext.self hh; clear hx) | (with_reducible have hx := SlV.self hh; clear hx) | (with_reducible have hx := Value.self hh; clear hx) | with_reducible cases hh | skip) | (with_reducible apply AllEq.mk; intro yy hq) | with_reducible apply trivial | with_reducible apply Exists.intro () | (with_reducible apply ex_side; (first | with_reducible assumption | with_reducible apply fracs1 | with_reducible apply fracs2 | with_reducible apply fracs3 | with_reducible apply spans1 | with_reducible apply spans2 | (with_reducible apply NewRow.keep; with_reducible assumption) | (with_reducible apply RowAt.keep; with_reducible assumption) | assumption | (focus ((repeat (first | with_reducible assumption | (with_reducible apply RowAt.le; rotate_left; with_reducible assumption) | (with_reducible apply RowB.le; rotate_left; with_reducible assumption))); done)))) | (with_reducible apply ex_side (a := (_, _)); (focus (with_reducible apply And.intro <;> (focus ((repeat (first | with_reducible assumption | (with_reducible apply RowAt.le; rotate_left; with_reducible assumption) | (with_reducible apply RowB.le; rotate_left; with_reducible assumption))); done))))))); (all_goals (conv => whnf)))
  (all_goals (try dsimp only [Q.eta, Sn.eta, SlV.eta] at *)); (all_goals (first | exact Side.mk trivial | with_reducible exact Side.mk rfl | exact Side.mk (fun _ _ h => h) | exact Side.mk (Made.le (by assumption)) | refine Side.mk ?_ | refine Don.mk ?_ | skip))
  refine ⟨(b, bs, ⟨sl, k0, d0⟩), Side.mk ⟨rfl, hs, by first | omega | (dsimp only; omega), by first | omega | (dsimp only; omega)⟩, fun a E1 h1 => ?_⟩
  obtain ⟨s1, a0, a1, _⟩ := h1.out
  have a1 : a < 6 := a1 (by show (1 : Int) ≤ 6; omega)
  obtain ⟨k1, d1, b1, c1⟩ := s1.src
  have b1 : k1 ≤ k0 + 2 := b1
  have l1 := s1.lessE
  clear h1 s1
  (repeat' ((conv => whnf); (first | with_reducible apply And.intro | (with_reducible intro hh; first | (with_reducible have hx := NewRow.self hh; clear hx) | (with_reducible have hrow := Made.row hh; have hle := Made.le hh; have hmade := hh; clear hh) | (with_reducible have hrow := Fresh.rowS hh; have hle := Fresh.leS hh; have hfr := hh; clear hh) | (with_reducible have hx := Ext.self hh; clear hx) | (with_reducible have hx := SlV.self hh; clear hx) | (with_reducible have hx := Value.self hh; clear hx) | with_reducible cases hh | skip) | (with_reducible apply AllEq.mk; intro yy hq) | with_reducible apply trivial | with_reducible apply Exists.intro () | (with_reducible apply ex_side; (first | with_reducible assumption | with_reducible apply fracs1 | with_reducible apply fracs2 | with_reducible apply fracs3 | with_reducible apply spans1 | with_reducible apply spans2 | (with_reducible apply NewRow.keep; with_reducible assumption) | (with_reducible apply RowAt.keep; with_reducible assumption) | assumption | (focus ((repeat (first | with_reducible assumption | (with_reducible apply RowAt.le; rotate_left; with_reducible assumption) | (with_reducible apply RowB.le; rotate_left; with_reducible assumption))); done)))) | (with_reducible apply ex_side (a := (_, _)); (focus (with_reducible apply And.intro <;> (focus ((repeat (first | with_reducible assumption | (with_reducible apply RowAt.le; rotate_left; with_reducible assumption) | (with_reducible apply RowB.le; rotate_left; with_reducible assumption))); done))))))); (all_goals (conv => whnf)))
  (all_goals (try dsimp only [Q.eta, Sn.eta, SlV.eta] at *)); (all_goals (first | exact Side.mk trivial | with_reducible exact Side.mk rfl | exact Side.mk (fun _ _ h => h) | exact Side.mk (Made.le (by assumption)) | refine Side.mk ?_ | refine Don.mk ?_ | skip))
  refine ⟨(b, bs, ⟨sl, k1, d1⟩), Side.mk ⟨rfl, c1, by first | omega | (dsimp only; omega), by first | omega | (dsimp only; omega)⟩, fun c E2 h2 => ?_⟩
  obtain ⟨s2, c0, c4, _⟩ := h2.out
  have c4 : c < 4 := c4 (by show (1 : Int) ≤ 4; omega)
  obtain ⟨k2, d2, b2, c2⟩ := s2.src
  have b2 : k2 ≤ k1 + 2 := b2
  have l2 := s2.lessE
  rw [l1] at l2
  clear h2 s2
  have w1 : IntKind.i64.wrap (1 + a) = 1 + a := wrap_in (by omega) (by omega)
  have w2 : IntKind.i64.wrap (1 + c) = 1 + c := wrap_in (by omega) (by omega)
  obtain ⟨ou, up1, up6, uq4, uq1⟩ := unit_small a0 a1 c0 c4
  (repeat' ((conv => whnf); (first | with_reducible apply And.intro | (with_reducible intro hh; first | (with_reducible have hx := NewRow.self hh; clear hx) | (with_reducible have hrow := Made.row hh; have hle := Made.le hh; have hmade := hh; clear hh) | (with_reducible have hrow := Fresh.rowS hh; have hle := Fresh.leS hh; have hfr := hh; clear hh) | (with_reducible have hx := Ext.self hh; clear hx) | (with_reducible have hx := SlV.self hh; clear hx) | (with_reducible have hx := Value.self hh; clear hx) | with_reducible cases hh | skip) | (with_reducible apply AllEq.mk; intro yy hq) | with_reducible apply trivial | with_reducible apply Exists.intro () | (with_reducible apply ex_side; (first | with_reducible assumption | with_reducible apply fracs1 | with_reducible apply fracs2 | with_reducible apply fracs3 | with_reducible apply spans1 | with_reducible apply spans2 | (with_reducible apply NewRow.keep; with_reducible assumption) | (with_reducible apply RowAt.keep; with_reducible assumption) | assumption | (focus ((repeat (first | with_reducible assumption | (with_reducible apply RowAt.le; rotate_left; with_reducible assumption) | (with_reducible apply RowB.le; rotate_left; with_reducible assumption))); done)))) | (with_reducible apply ex_side (a := (_, _)); (focus (with_reducible apply And.intro <;> (focus ((repeat (first | with_reducible assumption | (with_reducible apply RowAt.le; rotate_left; with_reducible assumption) | (with_reducible apply RowB.le; rotate_left; with_reducible assumption))); done))))))); (all_goals (conv => whnf)))
  (all_goals (try dsimp only [Q.eta, Sn.eta, SlV.eta] at *)); (all_goals (first | exact Side.mk trivial | with_reducible exact Side.mk rfl | exact Side.mk (fun _ _ h => h) | exact Side.mk (Made.le (by assumption)) | refine Side.mk ?_ | refine Don.mk ?_ | skip))
  all_goals rw [w1, w2]
  · refine ⟨?_, ?_, ?_⟩ <;> (try unfold B4) <;> omega
  generalize redQ (1 + a) (1 + c) = un at ou up1 up6 uq4 uq1 ⊢
  obtain ⟨u1, u2⟩ := un
  dsimp only at up1 up6 uq4 uq1 ⊢
  refine ⟨(b, bs, ⟨sl, k2, d2⟩), Side.mk ⟨rfl, c2, by first | omega | (dsimp only; omega), by decide⟩, fun fl E3 h3 => ?_⟩
  have s3 := h3.out
  obtain ⟨k3, d3, b3, c3⟩ := s3.src
  have b3 : k3 ≤ k2 + 2 := b3
  have l3 := s3.lessE
  rw [l2] at l3
  clear h3 s3
  (repeat' ((conv => whnf); (first | with_reducible apply And.intro | (with_reducible intro hh; first | (with_reducible have hx := NewRow.self hh; clear hx) | (with_reducible have hrow := Made.row hh; have hle := Made.le hh; have hmade := hh; clear hh) | (with_reducible have hrow := Fresh.rowS hh; have hle := Fresh.leS hh; have hfr := hh; clear hh) | (with_reducible have hx := Ext.self hh; clear hx) | (with_reducible have hx := SlV.self hh; clear hx) | (with_reducible have hx := Value.self hh; clear hx) | with_reducible cases hh | skip) | (with_reducible apply AllEq.mk; intro yy hq) | with_reducible apply trivial | with_reducible apply Exists.intro () | (with_reducible apply ex_side; (first | with_reducible assumption | with_reducible apply fracs1 | with_reducible apply fracs2 | with_reducible apply fracs3 | with_reducible apply spans1 | with_reducible apply spans2 | (with_reducible apply NewRow.keep; with_reducible assumption) | (with_reducible apply RowAt.keep; with_reducible assumption) | assumption | (focus ((repeat (first | with_reducible assumption | (with_reducible apply RowAt.le; rotate_left; with_reducible assumption) | (with_reducible apply RowB.le; rotate_left; with_reducible assumption))); done)))) | (with_reducible apply ex_side (a := (_, _)); (focus (with_reducible apply And.intro <;> (focus ((repeat (first | with_reducible assumption | (with_reducible apply RowAt.le; rotate_left; with_reducible assumption) | (with_reducible apply RowB.le; rotate_left; with_reducible assumption))); done))))))); (all_goals (conv => whnf)))
  (all_goals (try dsimp only [Q.eta, Sn.eta, SlV.eta] at *)); (all_goals (first | exact Side.mk trivial | with_reducible exact Side.mk rfl | exact Side.mk (fun _ _ h => h) | exact Side.mk (Made.le (by assumption)) | refine Side.mk ?_ | refine Don.mk ?_ | skip))
  refine ⟨(b, bs, ⟨sl, k3, d3⟩), Side.mk ⟨rfl, c3, by first | omega | (dsimp only; omega), by decide⟩, fun g E4 h4 => ?_⟩
  obtain ⟨s4, g0, g1, _⟩ := h4.out
  have g1 : g < 10 := g1 (by show (1 : Int) ≤ 10; omega)
  obtain ⟨k4, d4, b4, c4'⟩ := s4.src
  have b4 : k4 ≤ k3 + 2 := b4
  have l4 := s4.lessE
  rw [l3] at l4
  clear h4 s4
  have w3 : IntKind.i64.wrap (n + g) = n + g := wrap_in (by omega) (by omega)
  (repeat' ((conv => whnf); (first | with_reducible apply And.intro | (with_reducible intro hh; first | (with_reducible have hx := NewRow.self hh; clear hx) | (with_reducible have hrow := Made.row hh; have hle := Made.le hh; have hmade := hh; clear hh) | (with_reducible have hrow := Fresh.rowS hh; have hle := Fresh.leS hh; have hfr := hh; clear hh) | (with_reducible have hx := Ext.self hh; clear hx) | (with_reducible have hx := SlV.self hh; clear hx) | (with_reducible have hx := Value.self hh; clear hx) | with_reducible cases hh | skip) | (with_reducible apply AllEq.mk; intro yy hq) | with_reducible apply trivial | with_reducible apply Exists.intro () | (with_reducible apply ex_side; (first | with_reducible assumption | with_reducible apply fracs1 | with_reducible apply fracs2 | with_reducible apply fracs3 | with_reducible apply spans1 | with_reducible apply spans2 | (with_reducible apply NewRow.keep; with_reducible assumption) | (with_reducible apply RowAt.keep; with_reducible assumption) | assumption | (focus ((repeat (first | with_reducible assumption | (with_reducible apply RowAt.le; rotate_left; with_reducible assumption) | (with_reducible apply RowB.le; rotate_left; with_reducible assumption))); done)))) | (with_reducible apply ex_side (a := (_, _)); (focus (with_reducible apply And.intro <;> (focus ((repeat (first | with_reducible assumption | (with_reducible apply RowAt.le; rotate_left; with_reducible assumption) | (with_reducible apply RowB.le; rotate_left; with_reducible assumption))); done))))))); (all_goals (conv => whnf)))
  (all_goals (try dsimp only [Q.eta, Sn.eta, SlV.eta] at *)); (all_goals (first | exact Side.mk trivial | with_reducible exact Side.mk rfl | exact Side.mk (fun _ _ h => h) | exact Side.mk (Made.le (by assumption)) | refine Side.mk ?_ | refine Don.mk ?_ | skip))
  rw [w3]
  obtain ⟨N, hN⟩ : ∃ N : Nat, n + g = N := ⟨(n + g).toNat, by omega⟩
  rw [hN]
  have ou' := okQ_pos ou
  refine ⟨fun m s => ∃ (o : SlV) (q : List Q) (k : Nat) (d i : Int) (E' : Ext) (wg : Nat → AV) (ww : Nat → Value), q.length + m = N ∧ k ≤ k0 + 8 + 2 * q.length ∧ i = (m : Int) ∧ SrcAt b bs ⟨sl, k, d⟩ E' ∧ Grow 25 2 Q.cells (lessX E b) o q (lessX E' b) ∧ (∀ e ∈ q, SmallE ⟨u1, u2⟩ e) ∧ s = ⟨[.v (.pointer (some ⟨b, 0, none⟩)), .v (ww 0), .v (ww 1), .v (ww 2), .p 0 0, .p 1 0, .v (ww 3), .p 2 0, .v (.bool fl), .v (.int .i64 i), wg 0, .v (ww 4), .v (ww 5), .v (ww 6), .v (ww 7), .v (ww 8), .v (ww 9), .v (ww 10), .v (ww 11), .v (ww 12), .v (ww 13), .v (ww 14), .v (ww 15), .v (ww 16), .v (ww 17), .v (ww 18), .v (ww 19), .v (ww 20), .v (ww 21), wg 1, wg 2, wg 3, wg 4, wg 5, wg 6, wg 7, .v (ww 22), .v (ww 23), .v (ww 24), .v (ww 25), wg 8, .v (ww 26), .v (ww 27), wg 9, .v (ww 28), .v (ww 29), .v (ww 30), .v (ww 31), .v (ww 32), wg 10, wg 11, wg 12, wg 13, wg 14, wg 15, .v (ww 33)], [([.int .i64 0, .int .i64 0, .slice none 0 0], 49), ([.int .i64 u1, .int .i64 u2], 25), ([.int .i64 u1, .int .i64 u2, .slice o.a o.n o.c], 49)], E'⟩, ⟨N, ⟨none, 0, 0⟩, [], k4, d4, _, E4, nthA [_, _, _, _, _, _, _, _, _, _, _, _, _, _, _, _], nthV [_, _, _, _, _, _, _, _, _, _, _, _, _, _, _, _, _, _, _, _, _, _, _, _, _, _, _, _, _, _, _, _, _, _], by simp, by simp; omega, rfl, c4', by rw [l4]; exact Grow.nil, by simp, rfl⟩, ?_⟩
  rintro m s ⟨⟨oa, on, oc⟩, q, k, d, i, E', wg, ww, hq, hk', rfl, hs', hg, hsm, rfl⟩
  have hrow := hg.done.row
  have hrown : on = q.length := hrow.1
  clear l1 l2 l3 l4 c1 c2 c3 c4'
  by_cases hm0 : m = 0
  · subst hm0
    (repeat' ((conv => whnf); (first | with_reducible apply And.intro | (with_reducible intro hh; first | (exfalso; have hbb : (_ : Bool) = _ := hh; revert hh; clear hbb; simp [Nat.lt_irrefl]; done) | (with_reducible have hx := NewRow.self hh; clear hx) | (with_reducible have hrow := Made.row hh; have hle := Made.le hh; have hmade := hh; clear hh) | (with_reducible have hrow := Fresh.rowS hh; have hle := Fresh.leS hh; have hfr := hh; clear hh) | (with_reducible have hx := Ext.self hh; clear hx) | (with_reducible have hx := SlV.self hh; clear hx) | (with_reducible have hx := Value.self hh; clear hx) | with_reducible cases hh | skip) | (with_reducible apply AllEq.mk; intro yy hq) | with_reducible apply trivial | with_reducible apply Exists.intro () | (with_reducible apply ex_side; (first | with_reducible assumption | with_reducible apply fracs1 | with_reducible apply fracs2 | with_reducible apply fracs3 | with_reducible apply spans1 | with_reducible apply spans2 | (with_reducible apply NewRow.keep; with_reducible assumption) | (with_reducible apply RowAt.keep; with_reducible assumption) | assumption | (focus ((repeat (first | with_reducible assumption | (with_reducible apply RowAt.le; rotate_left; with_reducible assumption) | (with_reducible apply RowB.le; rotate_left; with_reducible assumption))); done)))) | (with_reducible apply ex_side (a := (_, _)); (focus (with_reducible apply And.intro <;> (focus ((repeat (first | with_reducible assumption | (with_reducible apply RowAt.le; rotate_left; with_reducible assumption) | (with_reducible apply RowB.le; rotate_left; with_reducible assumption))); done))))))); (all_goals (conv => whnf)))
    (all_goals (try dsimp only [Q.eta, Sn.eta, SlV.eta] at *)); (all_goals (first | exact Side.mk trivial | with_reducible exact Side.mk rfl | exact Side.mk (fun _ _ h => h) | exact Side.mk (Made.le (by assumption)) | refine Side.mk ?_ | refine Don.mk ?_ | skip))
    exact ⟨(⟨⟨u1, u2⟩, ⟨oa, on, oc⟩⟩, q), rfl, Side.mk ⟨RowAt.le hrow fun a v h => (less_some h).2, ⟨ou, up1, up6, uq4, hsm, by first | omega | (dsimp only; omega), by first | omega | (dsimp only; omega)⟩, by first | omega | (dsimp only; omega), hg.keeps⟩⟩
  · have hmp : 0 < m := by omega
    have wm : IntKind.i64.wrap ((m : Int) - 1) = ((m - 1 : Nat) : Int) := by rw [wrap_in (by omega) (by omega)]; omega
    cases fl with
    | true =>
      (repeat' ((conv => whnf); (first | with_reducible apply And.intro | (with_reducible intro hh; first | (exfalso; have hbb : (_ : Bool) = _ := hh; revert hh; clear hbb; simp [hmp]; done) | (with_reducible have hx := NewRow.self hh; clear hx) | (with_reducible have hrow := Made.row hh; have hle := Made.le hh; have hmade := hh; clear hh) | (with_reducible have hrow := Fresh.rowS hh; have hle := Fresh.leS hh; have hfr := hh; clear hh) | (with_reducible have hx := Ext.self hh; clear hx) | (with_reducible have hx := SlV.self hh; clear hx) | (with_reducible have hx := Value.self hh; clear hx) | with_reducible cases hh | skip) | (with_reducible apply AllEq.mk; intro yy hq) | with_reducible apply trivial | with_reducible apply Exists.intro () | (with_reducible apply ex_side; (first | with_reducible assumption | with_reducible apply fracs1 | with_reducible apply fracs2 | with_reducible apply fracs3 | with_reducible apply spans1 | with_reducible apply spans2 | (with_reducible apply NewRow.keep; with_reducible assumption) | (with_reducible apply RowAt.keep; with_reducible assumption) | assumption | (focus ((repeat (first | with_reducible assumption | (with_reducible apply RowAt.le; rotate_left; with_reducible assumption) | (with_reducible apply RowB.le; rotate_left; with_reducible assumption))); done)))) | (with_reducible apply ex_side (a := (_, _)); (focus (with_reducible apply And.intro <;> (focus ((repeat (first | with_reducible assumption | (with_reducible apply RowAt.le; rotate_left; with_reducible assumption) | (with_reducible apply RowB.le; rotate_left; with_reducible assumption))); done))))))); (all_goals (conv => whnf)))
      (all_goals (try dsimp only [Q.eta, Sn.eta, SlV.eta] at *)); (all_goals (first | exact Side.mk trivial | with_reducible exact Side.mk rfl | exact Side.mk (fun _ _ h => h) | exact Side.mk (Made.le (by assumption)) | refine Side.mk ?_ | refine Don.mk ?_ | skip))
      refine ⟨(_, _), Side.mk ⟨OwnRow.new hh (ownMore hg.own).1, cells_new hh rfl, by simp [cellOk], by dsimp only; omega⟩, fun r E2 hpost => ?_⟩
      obtain ⟨hs2, hg2⟩ := drw_push (x := ⟨0, 1⟩) hs' hg hh hpost
      (repeat' ((conv => whnf); (first | with_reducible apply And.intro | (with_reducible intro hh; first | (exfalso; have hbb : (_ : Bool) = _ := hh; revert hh; clear hbb; simp [hmp]; done) | (with_reducible have hx := NewRow.self hh; clear hx) | (with_reducible have hrow := Made.row hh; have hle := Made.le hh; have hmade := hh; clear hh) | (with_reducible have hrow := Fresh.rowS hh; have hle := Fresh.leS hh; have hfr := hh; clear hh) | (with_reducible have hx := Ext.self hh; clear hx) | (with_reducible have hx := SlV.self hh; clear hx) | (with_reducible have hx := Value.self hh; clear hx) | with_reducible cases hh | skip) | (with_reducible apply AllEq.mk; intro yy hq) | with_reducible apply trivial | with_reducible apply Exists.intro () | (with_reducible apply ex_side; (first | with_reducible assumption | with_reducible apply fracs1 | with_reducible apply fracs2 | with_reducible apply fracs3 | with_reducible apply spans1 | with_reducible apply spans2 | (with_reducible apply NewRow.keep; with_reducible assumption) | (with_reducible apply RowAt.keep; with_reducible assumption) | assumption | (focus ((repeat (first | with_reducible assumption | (with_reducible apply RowAt.le; rotate_left; with_reducible assumption) | (with_reducible apply RowB.le; rotate_left; with_reducible assumption))); done)))) | (with_reducible apply ex_side (a := (_, _)); (focus (with_reducible apply And.intro <;> (focus ((repeat (first | with_reducible assumption | (with_reducible apply RowAt.le; rotate_left; with_reducible assumption) | (with_reducible apply RowB.le; rotate_left; with_reducible assumption))); done))))))); (all_goals (conv => whnf)))
      (all_goals (try dsimp only [Q.eta, Sn.eta, SlV.eta] at *)); (all_goals (first | exact Side.mk trivial | with_reducible exact Side.mk rfl | exact Side.mk (fun _ _ h => h) | exact Side.mk (Made.le (by assumption)) | refine Side.mk ?_ | refine Don.mk ?_ | skip))
      rw [wm]
      refine ⟨m - 1, by omega, r, _, k, d, _, E2, nthA [_, _, _, _, _, _, _, _, _, _, _, _, _, _, _, _], nthV [_, _, _, _, _, _, _, _, _, _, _, _, _, _, _, _, _, _, _, _, _, _, _, _, _, _, _, _, _, _, _, _, _, _], by simp; omega, by simp; omega, rfl, hs2, hg2, fun e he => ?_, rfl⟩
      rcases List.mem_append.1 he with he | he
      · exact hsm e he
      · rw [List.mem_singleton.1 he]
        exact zero_small _
    | false =>
      (repeat' ((conv => whnf); (first | with_reducible apply And.intro | (with_reducible intro hh; first | (exfalso; have hbb : (_ : Bool) = _ := hh; revert hh; clear hbb; simp [hmp]; done) | (with_reducible have hx := NewRow.self hh; clear hx) | (with_reducible have hrow := Made.row hh; have hle := Made.le hh; have hmade := hh; clear hh) | (with_reducible have hrow := Fresh.rowS hh; have hle := Fresh.leS hh; have hfr := hh; clear hh) | (with_reducible have hx := Ext.self hh; clear hx) | (with_reducible have hx := SlV.self hh; clear hx) | (with_reducible have hx := Value.self hh; clear hx) | with_reducible cases hh | skip) | (with_reducible apply AllEq.mk; intro yy hq) | with_reducible apply trivial | with_reducible apply Exists.intro () | (with_reducible apply ex_side; (first | with_reducible assumption | with_reducible apply fracs1 | with_reducible apply fracs2 | with_reducible apply fracs3 | with_reducible apply spans1 | with_reducible apply spans2 | (with_reducible apply NewRow.keep; with_reducible assumption) | (with_reducible apply RowAt.keep; with_reducible assumption) | assumption | (focus ((repeat (first | with_reducible assumption | (with_reducible apply RowAt.le; rotate_left; with_reducible assumption) | (with_reducible apply RowB.le; rotate_left; with_reducible assumption))); done)))) | (with_reducible apply ex_side (a := (_, _)); (focus (with_reducible apply And.intro <;> (focus ((repeat (first | with_reducible assumption | (with_reducible apply RowAt.le; rotate_left; with_reducible assumption) | (with_reducible apply RowB.le; rotate_left; with_reducible assumption))); done))))))); (all_goals (conv => whnf)))
      (all_goals (try dsimp only [Q.eta, Sn.eta, SlV.eta] at *)); (all_goals (first | exact Side.mk trivial | with_reducible exact Side.mk rfl | exact Side.mk (fun _ _ h => h) | exact Side.mk (Made.le (by assumption)) | refine Side.mk ?_ | refine Don.mk ?_ | skip))
      all_goals (
        refine ⟨(b, bs, ⟨sl, k, d⟩), Side.mk ⟨rfl, hs', by dsimp only; omega, by decide⟩, fun j E5 h5 => ?_⟩
        obtain ⟨s5, j0, j1, _⟩ := h5.out
        have j1 : j < 9 := j1 (by show (1 : Int) ≤ 9; omega)
        obtain ⟨k5, d5, b5, c5⟩ := s5.src
        have b5 : k5 ≤ k + 2 := b5
        have l5 := s5.lessE
        rw [← l5] at hg
        clear h5 s5 hs'
        have y1 : IntKind.i64.wrap (j - 4) = j - 4 := wrap_in (by omega) (by omega)
        have y2 : ((j - 4) * u1).natAbs ≤ 24 := nm_mul (a := 4) (b := 6) (by omega) (by omega) (by omega)
        have y3 : IntKind.i64.wrap ((j - 4) * u1) = (j - 4) * u1 := wrap_in (by omega) (by omega)
        have y4 : IntKind.i64.wrap (16 * u2) = 16 * u2 := wrap_in (by omega) (by omega)
        (repeat' ((conv => whnf); (first | with_reducible apply And.intro | (with_reducible intro hh; first | (exfalso; have hbb : (_ : Bool) = _ := hh; revert hh; clear hbb; simp [hmp]; done) | (with_reducible have hx := NewRow.self hh; clear hx) | (with_reducible have hrow := Made.row hh; have hle := Made.le hh; have hmade := hh; clear hh) | (with_reducible have hrow := Fresh.rowS hh; have hle := Fresh.leS hh; have hfr := hh; clear hh) | (with_reducible have hx := Ext.self hh; clear hx) | (with_reducible have hx := SlV.self hh; clear hx) | (with_reducible have hx := Value.self hh; clear hx) | with_reducible cases hh | skip) | (with_reducible apply AllEq.mk; intro yy hq) | with_reducible apply trivial | with_reducible apply Exists.intro () | (with_reducible apply ex_side; (first | with_reducible assumption | with_reducible apply fracs1 | with_reducible apply fracs2 | with_reducible apply fracs3 | with_reducible apply spans1 | with_reducible apply spans2 | (with_reducible apply NewRow.keep; with_reducible assumption) | (with_reducible apply RowAt.keep; with_reducible assumption) | assumption | (focus ((repeat (first | with_reducible assumption | (with_reducible apply RowAt.le; rotate_left; with_reducible assumption) | (with_reducible apply RowB.le; rotate_left; with_reducible assumption))); done)))) | (with_reducible apply ex_side (a := (_, _)); (focus (with_reducible apply And.intro <;> (focus ((repeat (first | with_reducible assumption | (with_reducible apply RowAt.le; rotate_left; with_reducible assumption) | (with_reducible apply RowB.le; rotate_left; with_reducible assumption))); done))))))); (all_goals (conv => whnf)))
        (all_goals (try dsimp only [Q.eta, Sn.eta, SlV.eta] at *)); (all_goals (first | exact Side.mk trivial | with_reducible exact Side.mk rfl | exact Side.mk (fun _ _ h => h) | exact Side.mk (Made.le (by assumption)) | refine Side.mk ?_ | refine Don.mk ?_ | skip)))
      all_goals first
        | (rw [y1, y3, y4]
           refine ⟨?_, ?_, ?_⟩ <;> (try unfold B4) <;> omega)
        | (have he : SmallE ⟨u1, u2⟩ (redQ ((j - 4) * u1) (16 * u2)) := err_small (u := ⟨u1, u2⟩) ou up1 up6 uq4 (by omega) (by omega)
           revert hh
           rw [y1, y3, y4]
           generalize redQ ((j - 4) * u1) (16 * u2) = x at he ⊢
           generalize redC ((j - 4) * u1) (16 * u2) = xc
           obtain ⟨x1, x2⟩ := x
           intro hh
           refine ⟨(_, _), Side.mk ⟨OwnRow.new hh (ownMore hg.own).1, cells_new hh rfl, by simp [cellOk], by dsimp only; omega⟩, fun r E2 hpost => ?_⟩
           obtain ⟨hs2, hg2⟩ := drw_push (x := ⟨x1, x2⟩) c5 hg hh hpost
           (repeat' ((conv => whnf); (first | with_reducible apply And.intro | (with_reducible intro hh; first | (exfalso; have hbb : (_ : Bool) = _ := hh; revert hh; clear hbb; simp [hmp]; done) | (with_reducible have hx := NewRow.self hh; clear hx) | (with_reducible have hrow := Made.row hh; have hle := Made.le hh; have hmade := hh; clear hh) | (with_reducible have hrow := Fresh.rowS hh; have hle := Fresh.leS hh; have hfr := hh; clear hh) | (with_reducible have hx := Ext.self hh; clear hx) | (with_reducible have hx := SlV.self hh; clear hx) | (with_reducible have hx := Value.self hh; clear hx) | with_reducible cases hh | skip) | (with_reducible apply AllEq.mk; intro yy hq) | with_reducible apply trivial | with_reducible apply Exists.intro () | (with_reducible apply ex_side; (first | with_reducible assumption | with_reducible apply fracs1 | with_reducible apply fracs2 | with_reducible apply fracs3 | with_reducible apply spans1 | with_reducible apply spans2 | (with_reducible apply NewRow.keep; with_reducible assumption) | (with_reducible apply RowAt.keep; with_reducible assumption) | assumption | (focus ((repeat (first | with_reducible assumption | (with_reducible apply RowAt.le; rotate_left; with_reducible assumption) | (with_reducible apply RowB.le; rotate_left; with_reducible assumption))); done)))) | (with_reducible apply ex_side (a := (_, _)); (focus (with_reducible apply And.intro <;> (focus ((repeat (first | with_reducible assumption | (with_reducible apply RowAt.le; rotate_left; with_reducible assumption) | (with_reducible apply RowB.le; rotate_left; with_reducible assumption))); done))))))); (all_goals (conv => whnf)))
           (all_goals (try dsimp only [Q.eta, Sn.eta, SlV.eta] at *)); (all_goals (first | exact Side.mk trivial | with_reducible exact Side.mk rfl | exact Side.mk (fun _ _ h => h) | exact Side.mk (Made.le (by assumption)) | refine Side.mk ?_ | refine Don.mk ?_ | skip))
           rw [wm]
           refine ⟨m - 1, by omega, r, _, k5, d5, _, E2, nthA [_, _, _, _, _, _, _, _, _, _, _, _, _, _, _, _], nthV [_, _, _, _, _, _, _, _, _, _, _, _, _, _, _, _, _, _, _, _, _, _, _, _, _, _, _, _, _, _, _, _, _, _], by simp; omega, by simp; omega, rfl, hs2, hg2, fun e hq2 => ?_, rfl⟩
           rcases List.mem_append.1 hq2 with hq2 | hq2
           · exact hsm e hq2
           · rw [List.mem_singleton.1 hq2]
             exact he)
theorem keeps_less {E E1 E2 : Ext} {b : Nat} (k : Keeps E E1) (ho : E.own b = none) (hf : ∀ a v, E a = some v → a.block ≠ b) (h : Keeps (lessX E1 b) (lessX E2 b)) : Keeps E E2 := by
  refine ⟨fun a v ha => ?_, fun c p hc => ?_⟩
  · have hne := hf a v ha
    exact (less_some (h.le a v ((less_at hne).trans (k.le a v ha)))).2
  · have hne : c ≠ b := fun e => by rw [e, ho] at hc; cases hc
    obtain ⟨k1, k2⟩ := k.keep c p hc
    obtain ⟨k3, k4⟩ := h.keep c p ((less_own hne).trans k1)
    refine ⟨(less_osome k3).2, fun a ha => ?_⟩
    have hb : a.block ≠ b := by rw [ha]; exact hne
    have k5 := k4 a ha
    rw [less_at hb, less_at hb] at k5
    rw [k5, k2 a ha]
abbrev p6scaleSp : Sp := .nf BI1 (fun x (bs : List Int) E => Bytes8 x.1 bs E ∧ 2 ≤ x.2.1 ∧ x.2.1 ≤ 50) (fun _ _ (y : Scl × List Q) => y.1.v) (fun x _ y E E' => Side (Keeps E E' ∧ FracsAt y.1.errs y.2 E' ∧ SmallC y.1.unit y.2 ∧ x.2.1 ≤ y.2.length))
set_option maxRecDepth 100000 in
theorem p6scale_ok : Sp.ok Tryz.prog 30 p6scaleSp := by
  refine Sp.nf_ok (T := ⟨[(40, fromSp), (77, drawnSp)], []⟩) follows eqok0 ⟨enters Tryz.func40 rfl rfl, from_ok, enters Tryz.func77 rfl rfl, drawn_ok, trivial⟩ [] Tryz.func30 rfl (by kernel_rfl) _ _ _ _ fun x bs E hp => ?_
  obtain ⟨⟨sa, n, c⟩, m, u⟩ := x
  obtain ⟨hb, hm2, hm⟩ := hp
  dsimp only at hm2 hm
  (repeat' ((conv => whnf); (first | with_reducible apply And.intro | (with_reducible intro hh; first | (with_reducible have hx := NewRow.self hh; clear hx) | (with_reducible have hrow := Made.row hh; have hle := Made.le hh; have hmade := hh; clear hh) | (with_reducible have hrow := Fresh.rowS hh; have hle := Fresh.leS hh; have hfr := hh; clear hh) | (with_reducible have hx := Ext.self hh; clear hx) | (with_reducible have hx := SlV.self hh; clear hx) | (with_reducible have hx := Value.self hh; clear hx) | with_reducible cases hh | skip) | (with_reducible apply AllEq.mk; intro yy hq) | with_reducible apply trivial | with_reducible apply Exists.intro () | (with_reducible apply ex_side; (first | with_reducible assumption | with_reducible apply fracs1 | with_reducible apply fracs2 | with_reducible apply fracs3 | with_reducible apply spans1 | with_reducible apply spans2 | (with_reducible apply NewRow.keep; with_reducible assumption) | (with_reducible apply RowAt.keep; with_reducible assumption) | assumption | (focus ((repeat (first | with_reducible assumption | (with_reducible apply RowAt.le; rotate_left; with_reducible assumption) | (with_reducible apply RowB.le; rotate_left; with_reducible assumption))); done)))) | (with_reducible apply ex_side (a := (_, _)); (focus (with_reducible apply And.intro <;> (focus ((repeat (first | with_reducible assumption | (with_reducible apply RowAt.le; rotate_left; with_reducible assumption) | (with_reducible apply RowB.le; rotate_left; with_reducible assumption))); done))))))); (all_goals (conv => whnf)))
  (all_goals (try dsimp only [Q.eta, Sn.eta, SlV.eta] at *)); (all_goals (first | exact Side.mk trivial | with_reducible exact Side.mk rfl | exact Side.mk (fun _ _ h => h) | exact Side.mk (Made.le (by assumption)) | refine Side.mk ?_ | refine Don.mk ?_ | skip))
  rename_i y E1
  obtain ⟨s1, k1, o1, f1⟩ := hh.out
  clear hh
  refine ⟨(y, bs, _), Side.mk ⟨rfl, s1, by dsimp only; omega, hm2, hm⟩, fun z E2 h2 => ?_⟩
  obtain ⟨q1, q2, q3, q4⟩ := h2.out
  obtain ⟨⟨⟨u1, u2⟩, ⟨oa, on, oc⟩⟩, q⟩ := z
  (repeat' ((conv => whnf); (first | with_reducible apply And.intro | (with_reducible intro hh; first | (with_reducible have hx := NewRow.self hh; clear hx) | (with_reducible have hrow := Made.row hh; have hle := Made.le hh; have hmade := hh; clear hh) | (with_reducible have hrow := Fresh.rowS hh; have hle := Fresh.leS hh; have hfr := hh; clear hh) | (with_reducible have hx := Ext.self hh; clear hx) | (with_reducible have hx := SlV.self hh; clear hx) | (with_reducible have hx := Value.self hh; clear hx) | with_reducible cases hh | skip) | (with_reducible apply AllEq.mk; intro yy hq) | with_reducible apply trivial | with_reducible apply Exists.intro () | (with_reducible apply ex_side; (first | with_reducible assumption | with_reducible apply fracs1 | with_reducible apply fracs2 | with_reducible apply fracs3 | with_reducible apply spans1 | with_reducible apply spans2 | (with_reducible apply NewRow.keep; with_reducible assumption) | (with_reducible apply RowAt.keep; with_reducible assumption) | assumption | (focus ((repeat (first | with_reducible assumption | (with_reducible apply RowAt.le; rotate_left; with_reducible assumption) | (with_reducible apply RowB.le; rotate_left; with_reducible assumption))); done)))) | (with_reducible apply ex_side (a := (_, _)); (focus (with_reducible apply And.intro <;> (focus ((repeat (first | with_reducible assumption | (with_reducible apply RowAt.le; rotate_left; with_reducible assumption) | (with_reducible apply RowB.le; rotate_left; with_reducible assumption))); done))))))); (all_goals (conv => whnf)))
  (all_goals (try dsimp only [Q.eta, Sn.eta, SlV.eta] at *)); (all_goals (first | exact Side.mk trivial | with_reducible exact Side.mk rfl | exact Side.mk (fun _ _ h => h) | exact Side.mk (Made.le (by assumption)) | refine Side.mk ?_ | refine Don.mk ?_ | skip))
  exact ⟨(⟨⟨u1, u2⟩, ⟨oa, on, oc⟩⟩, q), rfl, Side.mk ⟨keeps_less k1 o1 f1 q4, q1, q2, q3⟩⟩

end Go.Proofs.YtadliapkjijahaaGreatDoor
