/- Contracts of the functions that copy, compare and add up lists of fractions, for all lists that lie in memory; conditions: the bounds that each names. -/
import Derived.Test.YtadliapkjijahaaGreatDoorAb
import Derived.Test.YtadliapkjijahaaGreatDoorC1
import Derived.Test.YtadliapkjijahaaGreatDoorC2
import Derived.Test.YtadliapkjijahaaGreatDoorC3
import Derived.Test.YtadliapkjijahaaGreatDoorC4
import Derived.Test.YtadliapkjijahaaGreatDoorC5
import Derived.Test.YtadliapkjijahaaGreatDoorCL
import Derived.Test.YtadliapkjijahaaGreatDoorC6
import Derived.Test.YtadliapkjijahaaGreatDoorC7
import Derived.Test.YtadliapkjijahaaGreatDoorC8
import Derived.Test.YtadliapkjijahaaGreatDoorC9
import Derived.Test.YtadliapkjijahaaGreatDoorCO
import Derived.Test.YtadliapkjijahaaGreatDoorProg
set_option linter.unusedVariables false
set_option linter.unusedSimpArgs false
namespace Go.Proofs.YtadliapkjijahaaGreatDoor
open Ab

/-! rows that are made -/
/-- A new row of the run's own. -/
structure Made {α : Type} (e : TypeId) (c : Nat) (en : α → List Value) (y : SlV) (l : List α) (E E' : Ext) : Prop where
  row : RowAt en c y l E'
  le : Ext.le E E'
  own : ∃ b, y.a = some ⟨b, 0, none⟩ ∧ E'.own b = some (y.c * c, e) ∧ E.own b = none ∧ ∀ a v, E a = some v → a.block ≠ b
  keep : ∀ b p, E.own b = some p → E'.own b = some p ∧ ∀ a, a.block = b → E' a = E a
  cap : y.n ≤ y.c
/-- A row that is filled from its beginning on. -/
structure Fill {α : Type} (c : Nat) (en : α → List Value) (l : List α) (b : Nat) (E1 : Ext) (k : Nat) (E' : Ext) : Prop where
  own : E'.own = E1.own
  other : ∀ a, a.block ≠ b → E' a = E1 a
  cells : ∀ i x j v, i < k → l[i]? = some x → (en x)[j]? = some v → E' ⟨b, i * c + j, none⟩ = some v
theorem Fill.start {α : Type} {c : Nat} {en : α → List Value} {l : List α} {b : Nat} {E1 : Ext} : Fill c en l b E1 0 E1 := ⟨rfl, fun _ _ => rfl, fun i x j v hi => absurd hi (Nat.not_lt_zero _)⟩
theorem upd_other {E : Ext} {b o : Nat} {cs : List Value} {a : Addr} (h : a.block ≠ b) : (E.upd b o cs) a = E a := by
  unfold Ext.upd
  dsimp only
  rw [if_neg (fun h' => h h'.1)]
theorem upd_in {E : Ext} {b o j : Nat} {cs : List Value} (h : o ≤ j) (h' : j < o + cs.length) : (E.upd b o cs) ⟨b, j, none⟩ = cs[j - o]? := by
  unfold Ext.upd
  dsimp only
  rw [if_pos ⟨rfl, rfl, h, h'⟩]
theorem upd_out {E : Ext} {b o j : Nat} {cs : List Value} (h : j < o ∨ o + cs.length ≤ j) : (E.upd b o cs) ⟨b, j, none⟩ = E ⟨b, j, none⟩ := by
  unfold Ext.upd
  dsimp only
  rw [if_neg (fun h' => by omega)]
theorem Fill.step {α : Type} {c : Nat} {en : α → List Value} {l : List α} {b : Nat} {E1 : Ext} {k : Nat} {E' : Ext} {x : α} (hc : ∀ x, (en x).length = c) (h : Fill c en l b E1 k E') (hk : l[k]? = some x) : Fill c en l b E1 (k + 1) (E'.upd b (k * c) (en x)) := by
  refine ⟨h.own, fun a ha => (upd_other ha).trans (h.other a ha), fun i y j v hi hy hj => ?_⟩
  have hjc : j < c := by rw [← hc y]; exact (List.getElem?_eq_some_iff.1 hj).1
  by_cases hik : i = k
  · subst hik
    rw [hk] at hy
    cases hy
    rw [upd_in (by omega) (by rw [hc]; omega), show i * c + j - i * c = j by omega]
    exact hj
  · have hlt : i < k := by omega
    have : (i + 1) * c ≤ k * c := Nat.mul_le_mul_right _ hlt
    rw [Nat.succ_mul] at this
    rw [upd_out (.inl (by omega))]
    exact h.cells i y j v hlt hy hj
theorem Fill.le {α : Type} {c : Nat} {en : α → List Value} {l : List α} {b : Nat} {E E1 : Ext} {k : Nat} {E' : Ext} (h : Fill c en l b E1 k E') (h1 : ∀ a v, E a = some v → a.block ≠ b ∧ E1 a = some v) : Ext.le E E' := fun a v ha => (h.other a (h1 a v ha).1).trans (h1 a v ha).2
theorem new_other {E : Ext} {cs : List Value} {e : TypeId} (r : NewRow E cs e) (a : Addr) (v : Value) (h : E a = some v) : a.block ≠ r.b ∧ r.to a = some v := ⟨r.fresh a v h, r.le a v h⟩
theorem new_own {E : Ext} {cs : List Value} {e : TypeId} (r : NewRow E cs e) : r.to.own r.b = some (cs.length, e) := by simp [NewRow.to, Ext.with]
theorem new_own' {E : Ext} {cs : List Value} {e : TypeId} (r : NewRow E cs e) {b : Nat} (h : b ≠ r.b) : r.to.own b = E.own b := by simp [NewRow.to, Ext.with, h]
theorem new_at {E : Ext} {cs : List Value} {e : TypeId} (r : NewRow E cs e) {a : Addr} (h : a.block ≠ r.b) : r.to a = E a := by
  simp only [NewRow.to, Ext.with]
  rw [if_neg (fun h' => h h'.1)]
theorem zeroRow_len (z : List Value) (n : Nat) : (zeroRow z n).length = n * z.length := by
  induction n with
  | zero => simp [zeroRow]
  | succ n ih => simp [zeroRow, ih, Nat.succ_mul, Nat.add_comm]
theorem Fill.owned {α : Type} {c : Nat} {en : α → List Value} {l : List α} {E : Ext} {z : List Value} {e : TypeId} {n : Nat} {r : NewRow E (zeroRow z n) e} {k : Nat} {E' : Ext} (hz : z.length = c) (h : Fill c en l r.b r.to k E') (hk : k < n) : Owned E' ⟨r.b, k * c, none⟩ c := by
  refine ⟨rfl, (n * c, e), ?_, ?_⟩
  · show E'.own r.b = _
    rw [h.own, new_own, zeroRow_len, hz]
  · have : (k + 1) * c ≤ n * c := Nat.mul_le_mul_right _ hk
    rw [Nat.succ_mul] at this
    exact this
theorem Fill.made {α : Type} {c : Nat} {en : α → List Value} {l : List α} {E : Ext} {z : List Value} {e : TypeId} {n : Nat} {r : NewRow E (zeroRow z n) e} {E' : Ext} (hz : z.length = c) (h : Fill c en l r.b r.to l.length E') (hn : n = l.length) (hm : l.length ≤ maxLen) : Made e c en ⟨some ⟨r.b, 0, none⟩, n, n⟩ l E E' := by
  refine ⟨⟨hn, by dsimp only; omega, fun h => by simp at h, fun a ha i x hx j v hj => ?_⟩, h.le (new_other r), ⟨r.b, rfl, ?_, r.fresho, r.fresh⟩, fun b p hb => ?_, Nat.le_refl _⟩
  · simp only [Option.some.injEq] at ha
    subst ha
    rw [Go.Deep.add_add, addr_add, Nat.zero_add]
    exact h.cells i x j v (List.getElem?_eq_some_iff.1 hx).1 hx hj
  · rw [h.own, new_own, zeroRow_len, hz]
  · have hne : b ≠ r.b := fun e => by
      have := r.fresho
      rw [← e, hb] at this
      cases this
    refine ⟨?_, fun a ha => ?_⟩
    · rw [h.own, new_own' r hne]
      exact hb
    · rw [h.other a (by rw [ha]; exact hne), new_at r (by rw [ha]; exact hne)]
/-- A row that is not long. -/
structure RowB {α : Type} (en : α → List Value) (c : Nat) (s : SlV) (l : List α) (E : Ext) : Prop where
  row : RowAt en c s l E
  small : l.length ≤ 1048576
theorem RowB.le {α : Type} {en : α → List Value} {c : Nat} {s : SlV} {l : List α} {E E' : Ext} (h : RowB en c s l E) (hE : Ext.le E E') : RowB en c s l E' := ⟨h.row.le hE, h.small⟩
/-! the laws' own functions on lists of fractions -/
abbrev SI : ArgL (SlV × Int × Unit) := .cons .slice (.cons .int .nil)
abbrev SS : ArgL (SlV × SlV × Unit) := .cons .slice (.cons .slice .nil)
theorem wrap_nat {n : Nat} (h : n ≤ maxLen) : IntKind.i64.wrap (n : Int) = n := by unfold maxLen at h; exact wrap_in (by omega) (by omega)
theorem wrap_len {left : Int} {n : Nat} (h : n ≤ maxLen) (h0 : 0 ≤ left) (h1 : left ≤ 1048576) : IntKind.i64.wrap (left - n) = left - n := by unfold maxLen at h; exact wrap_in (by omega) (by omega)
def szR (left : Int) (n : Nat) : Int := if left - n < 0 then -1 else left - n
abbrev szSp : Sp := .pf SI (fun x => x.1.n ≤ maxLen ∧ 0 ≤ x.2.1 ∧ x.2.1 ≤ 1048576) (fun x => .int .i64 (szR x.2.1 x.1.n))
abbrev eqFracSSp : Sp := .rf SS (fun x (l : List Q × List Q) E => FracsAt x.1 l.1 E ∧ FracsAt x.2.1 l.2 E) (fun _ l => .bool (decide (l.1 = l.2)))

set_option maxRecDepth 100000 in
theorem eqFracS_ok : Sp.ok Tryz.prog 74 eqFracSSp := by
  refine Sp.rf_ok (T := ⟨[(73, eqFracSp)], []⟩) follows eqok0 ⟨enters Tryz.func73 rfl rfl, eqFrac_ok, trivial⟩ [(6, .take 0 (.take 1 (.take 2 (.take 3 (.take 4 (.take 5 (.take 6 (.take 7 (.alt 8 (.take 9 (.done)) (.last))))))))))] Tryz.func74 rfl (by kernel_rfl) _ _ _ fun x l E hp => ?_
  obtain ⟨⟨sa, n, c⟩, ⟨sa', n', c'⟩, u⟩ := x
  obtain ⟨l, l'⟩ := l
  obtain ⟨hp, hp'⟩ := hp
  have hat := @FracsAt.at _ _ _ hp
  have hat' := @FracsAt.at _ _ _ hp'
  obtain ⟨hn, hmax, hnone, _⟩ := hp
  obtain ⟨hn', hmax', hnone', _⟩ := hp'
  dsimp only at hn hmax hnone hat hn' hmax' hnone' hat'
  (repeat' ((conv => whnf); (first | with_reducible apply And.intro | (with_reducible intro hh; first | (with_reducible have hx := NewRow.self hh; clear hx) | (with_reducible have hrow := Made.row hh; have hle := Made.le hh; have hmade := hh; clear hh) | (with_reducible have hrow := Fresh.rowS hh; have hle := Fresh.leS hh; have hfr := hh; clear hh) | (with_reducible have hx := Ext.self hh; clear hx) | (with_reducible have hx := SlV.self hh; clear hx) | (with_reducible have hx := Value.self hh; clear hx) | with_reducible cases hh | skip) | (with_reducible apply AllEq.mk; intro yy hq) | with_reducible apply trivial | with_reducible apply Exists.intro () | (with_reducible apply ex_side; (first | with_reducible assumption | with_reducible apply fracs1 | with_reducible apply fracs2 | with_reducible apply fracs3 | with_reducible apply spans1 | with_reducible apply spans2 | (with_reducible apply NewRow.keep; with_reducible assumption) | (with_reducible apply RowAt.keep; with_reducible assumption) | assumption | (focus ((repeat (first | with_reducible assumption | (with_reducible apply RowAt.le; rotate_left; with_reducible assumption) | (with_reducible apply RowB.le; rotate_left; with_reducible assumption))); done)))) | (with_reducible apply ex_side (a := (_, _)); (focus (with_reducible apply And.intro <;> (focus ((repeat (first | with_reducible assumption | (with_reducible apply RowAt.le; rotate_left; with_reducible assumption) | (with_reducible apply RowB.le; rotate_left; with_reducible assumption))); done))))))); (all_goals (conv => whnf)))
  (all_goals (try dsimp only [Q.eta, Sn.eta, SlV.eta] at *)); (all_goals (first | exact Side.mk trivial | with_reducible exact Side.mk rfl | exact Side.mk (fun _ _ h => h) | exact Side.mk (Made.le (by assumption)) | refine Side.mk ?_ | refine Don.mk ?_ | skip))
  · have : l ≠ l' := fun e => by subst e; simp_all
    simp [this]
  have hll : l.length = l'.length := by simp at hh; omega
  clear hh
  refine ⟨fun m s => ∃ (k : Nat) (g2 g3 g4 g6 g7 g8 g9 g10 g11 g12 g13 g14 g15 g16 g17 g18 g19 g20 g21 g22 g23 g24 g25 g26 : AV), m = l.length - k ∧ k ≤ l.length ∧ (∀ i, i < k → l[i]? = l'[i]?) ∧ s = ⟨[.v (.slice sa n c), .v (.slice sa' n' c'), g2, g3, g4, .v (.int .i64 k), g6, g7, g8, g9, g10, g11, g12, g13, g14, g15, g16, g17, g18, g19, g20, g21, g22, g23, g24, g25, g26], [], E⟩, ⟨_, 0, _, _, _, _, _, _, _, _, _, _, _, _, _, _, _, _, _, _, _, _, _, _, _, _, rfl, Nat.zero_le _, fun i hi => absurd hi (Nat.not_lt_zero _), rfl⟩, ?_⟩
  rintro m s ⟨k, g2, g3, g4, g6, g7, g8, g9, g10, g11, g12, g13, g14, g15, g16, g17, g18, g19, g20, g21, g22, g23, g24, g25, g26, rfl, hk, hv, rfl⟩
  rcases hkl : l[k]? with _ | q
  · have hge := List.getElem?_eq_none_iff.1 hkl
    (repeat' ((conv => whnf); (first | with_reducible apply And.intro | (with_reducible intro hh; first | (with_reducible have hx := NewRow.self hh; clear hx) | (with_reducible have hrow := Made.row hh; have hle := Made.le hh; have hmade := hh; clear hh) | (with_reducible have hrow := Fresh.rowS hh; have hle := Fresh.leS hh; have hfr := hh; clear hh) | (with_reducible have hx := Ext.self hh; clear hx) | (with_reducible have hx := SlV.self hh; clear hx) | (with_reducible have hx := Value.self hh; clear hx) | with_reducible cases hh | skip) | (with_reducible apply AllEq.mk; intro yy hq) | with_reducible apply trivial | with_reducible apply Exists.intro () | (with_reducible apply ex_side; (first | with_reducible assumption | with_reducible apply fracs1 | with_reducible apply fracs2 | with_reducible apply fracs3 | with_reducible apply spans1 | with_reducible apply spans2 | (with_reducible apply NewRow.keep; with_reducible assumption) | (with_reducible apply RowAt.keep; with_reducible assumption) | assumption | (focus ((repeat (first | with_reducible assumption | (with_reducible apply RowAt.le; rotate_left; with_reducible assumption) | (with_reducible apply RowB.le; rotate_left; with_reducible assumption))); done)))) | (with_reducible apply ex_side (a := (_, _)); (focus (with_reducible apply And.intro <;> (focus ((repeat (first | with_reducible assumption | (with_reducible apply RowAt.le; rotate_left; with_reducible assumption) | (with_reducible apply RowB.le; rotate_left; with_reducible assumption))); done))))))); (all_goals (conv => whnf)))
    (all_goals (try dsimp only [Q.eta, Sn.eta, SlV.eta] at *)); (all_goals (first | exact Side.mk trivial | with_reducible exact Side.mk rfl | exact Side.mk (fun _ _ h => h) | exact Side.mk (Made.le (by assumption)) | refine Side.mk ?_ | refine Don.mk ?_ | skip))
    all_goals try (exfalso; have := of_decide_eq_true hh; omega)
    have : l = l' := by
      apply List.ext_getElem?
      intro i
      by_cases hi : i < k
      · exact hv i hi
      · rw [List.getElem?_eq_none (by omega), List.getElem?_eq_none (by omega)]
    simp [this]
  · have hlt : k < l.length := (List.getElem?_eq_some_iff.1 hkl).1
    have hkl' : l'[k]? = some (l'[k]'(by omega)) := List.getElem?_eq_getElem (by omega)
    generalize l'[k]'(by omega) = q' at hkl'
    cases sa with
    | none => rw [hnone rfl] at hkl; cases hkl
    | some a =>
    cases sa' with
    | none => rw [hnone' rfl] at hkl'; cases hkl'
    | some a' =>
      obtain ⟨h0, h1⟩ := hat rfl hkl
      obtain ⟨g0, g1⟩ := hat' rfl hkl'
      (repeat' ((conv => whnf); (first | with_reducible apply And.intro | (with_reducible intro hh; first | (with_reducible have hx := NewRow.self hh; clear hx) | (with_reducible have hrow := Made.row hh; have hle := Made.le hh; have hmade := hh; clear hh) | (with_reducible have hrow := Fresh.rowS hh; have hle := Fresh.leS hh; have hfr := hh; clear hh) | (with_reducible have hx := Ext.self hh; clear hx) | (with_reducible have hx := SlV.self hh; clear hx) | (with_reducible have hx := Value.self hh; clear hx) | with_reducible cases hh | skip) | (with_reducible apply AllEq.mk; intro yy hq) | with_reducible apply trivial | with_reducible apply Exists.intro () | (with_reducible apply ex_side; (first | with_reducible assumption | with_reducible apply fracs1 | with_reducible apply fracs2 | with_reducible apply fracs3 | with_reducible apply spans1 | with_reducible apply spans2 | (with_reducible apply NewRow.keep; with_reducible assumption) | (with_reducible apply RowAt.keep; with_reducible assumption) | assumption | (focus ((repeat (first | with_reducible assumption | (with_reducible apply RowAt.le; rotate_left; with_reducible assumption) | (with_reducible apply RowB.le; rotate_left; with_reducible assumption))); done)))) | (with_reducible apply ex_side (a := (_, _)); (focus (with_reducible apply And.intro <;> (focus ((repeat (first | with_reducible assumption | (with_reducible apply RowAt.le; rotate_left; with_reducible assumption) | (with_reducible apply RowB.le; rotate_left; with_reducible assumption))); done))))))); (all_goals (conv => whnf)))
      (all_goals (try dsimp only [Q.eta, Sn.eta, SlV.eta] at *)); (all_goals (first | exact Side.mk trivial | with_reducible exact Side.mk rfl | exact Side.mk (fun _ _ h => h) | exact Side.mk (Made.le (by assumption)) | refine Side.mk ?_ | refine Don.mk ?_ | skip))
      all_goals first | exact ⟨by omega, by omega⟩ | skip
      all_goals try (exfalso; have := of_decide_eq_false hh; omega)
      all_goals first | (have hne : q ≠ q' := by simpa using hh) | (have heq : q = q' := by simpa using hh)
      all_goals first | (have : l ≠ l' := fun e => hne (by rw [e, hkl'] at hkl; cases hkl; rfl); simp [this]; done) | skip
      all_goals refine ⟨_, ?_, k + 1, _, _, _, _, _, _, _, _, _, _, _, _, _, _, _, _, _, _, _, _, _, _, _, _, rfl, hlt, fun i hi => ?_, by first | (rw [wrap_succ (n := n) (by omega) hmax]; done) | (rw [wrap_succ (n := n) (by omega) hmax]; rfl)⟩
      all_goals first | omega | skip
      all_goals (by_cases hik : i = k; (subst hik; rw [hkl, hkl', heq]); exact hv i (by omega))
/-! lists with their codes -/
def listC (least : Int) (l : List Q) : Int := if allOk l then (if l.length > 64 ∨ (l.length : Int) < least then 2 else 0) else 1

end Go.Proofs.YtadliapkjijahaaGreatDoor
