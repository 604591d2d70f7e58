/- Contracts of the functions that copy, compare and add up lists of fractions, for all lists that lie in memory; conditions: the bounds that each names. -/
import Derived.Test.YtjibkphhlflpeaaAb
import Derived.Test.YtjibkphhlflpeaaC1
import Derived.Test.YtjibkphhlflpeaaC2
import Derived.Test.YtjibkphhlflpeaaC3
import Derived.Test.YtjibkphhlflpeaaC4
import Derived.Test.YtjibkphhlflpeaaC5
import Derived.Test.YtjibkphhlflpeaaCL
import Derived.Test.YtjibkphhlflpeaaC6
import Derived.Test.YtjibkphhlflpeaaC7
import Derived.Test.YtjibkphhlflpeaaC8
import Derived.Test.YtjibkphhlflpeaaC9
import Derived.Test.YtjibkphhlflpeaaCO
import Derived.Test.YtjibkphhlflpeaaProg
set_option linter.unusedVariables false
set_option linter.unusedSimpArgs false
namespace Go.Proofs.Ytjibkphhlflpeaa
open Ab

/-! rows that are made -/
/-- A new row of the run's own. -/
structure Made {α : Type} (e : TypeId) (c : Nat) (en : α → List Value) (y : SlV) (l : List α) (E E' : Ext) : Prop where
  row : RowAt en c y l E'
  le : Ext.le E E'
  own : ∃ b, y.a = some ⟨b, 0, none⟩ ∧ E'.own b = some (y.c * c, e) ∧ E.own b = none ∧ ∀ a v, E a = some v → a.block ≠ b
  keep : ∀ b p, E.own b = some p → E'.own b = some p ∧ ∀ a, a.block = b → E' a = E a
  cap : y.n ≤ y.c
/-- A row that is filled from its beginning on. -/
structure Fill {α : Type} (c : Nat) (en : α → List Value) (l : List α) (b : Nat) (E1 : Ext) (k : Nat) (E' : Ext) : Prop where
  own : E'.own = E1.own
  other : ∀ a, a.block ≠ b → E' a = E1 a
  cells : ∀ i x j v, i < k → l[i]? = some x → (en x)[j]? = some v → E' ⟨b, i * c + j, none⟩ = some v
theorem Fill.start {α : Type} {c : Nat} {en : α → List Value} {l : List α} {b : Nat} {E1 : Ext} : Fill c en l b E1 0 E1 := ⟨rfl, fun _ _ => rfl, fun i x j v hi => absurd hi (Nat.not_lt_zero _)⟩
theorem upd_other {E : Ext} {b o : Nat} {cs : List Value} {a : Addr} (h : a.block ≠ b) : (E.upd b o cs) a = E a := by
  unfold Ext.upd
  dsimp only
  rw [if_neg (fun h' => h h'.1)]
theorem upd_in {E : Ext} {b o j : Nat} {cs : List Value} (h : o ≤ j) (h' : j < o + cs.length) : (E.upd b o cs) ⟨b, j, none⟩ = cs[j - o]? := by
  unfold Ext.upd
  dsimp only
  rw [if_pos ⟨rfl, rfl, h, h'⟩]
theorem upd_out {E : Ext} {b o j : Nat} {cs : List Value} (h : j < o ∨ o + cs.length ≤ j) : (E.upd b o cs) ⟨b, j, none⟩ = E ⟨b, j, none⟩ := by
  unfold Ext.upd
  dsimp only
  rw [if_neg (fun h' => by omega)]
theorem Fill.step {α : Type} {c : Nat} {en : α → List Value} {l : List α} {b : Nat} {E1 : Ext} {k : Nat} {E' : Ext} {x : α} (hc : ∀ x, (en x).length = c) (h : Fill c en l b E1 k E') (hk : l[k]? = some x) : Fill c en l b E1 (k + 1) (E'.upd b (k * c) (en x)) := by
  refine ⟨h.own, fun a ha => (upd_other ha).trans (h.other a ha), fun i y j v hi hy hj => ?_⟩
  have hjc : j < c := by rw [← hc y]; exact (List.getElem?_eq_some_iff.1 hj).1
  by_cases hik : i = k
  · subst hik
    rw [hk] at hy
    cases hy
    rw [upd_in (by omega) (by rw [hc]; omega), show i * c + j - i * c = j by omega]
    exact hj
  · have hlt : i < k := by omega
    have : (i + 1) * c ≤ k * c := Nat.mul_le_mul_right _ hlt
    rw [Nat.succ_mul] at this
    rw [upd_out (.inl (by omega))]
    exact h.cells i y j v hlt hy hj
theorem Fill.le {α : Type} {c : Nat} {en : α → List Value} {l : List α} {b : Nat} {E E1 : Ext} {k : Nat} {E' : Ext} (h : Fill c en l b E1 k E') (h1 : ∀ a v, E a = some v → a.block ≠ b ∧ E1 a = some v) : Ext.le E E' := fun a v ha => (h.other a (h1 a v ha).1).trans (h1 a v ha).2
theorem new_other {E : Ext} {cs : List Value} {e : TypeId} (r : NewRow E cs e) (a : Addr) (v : Value) (h : E a = some v) : a.block ≠ r.b ∧ r.to a = some v := ⟨r.fresh a v h, r.le a v h⟩
theorem new_own {E : Ext} {cs : List Value} {e : TypeId} (r : NewRow E cs e) : r.to.own r.b = some (cs.length, e) := by simp [NewRow.to, Ext.with]
theorem new_own' {E : Ext} {cs : List Value} {e : TypeId} (r : NewRow E cs e) {b : Nat} (h : b ≠ r.b) : r.to.own b = E.own b := by simp [NewRow.to, Ext.with, h]
theorem new_at {E : Ext} {cs : List Value} {e : TypeId} (r : NewRow E cs e) {a : Addr} (h : a.block ≠ r.b) : r.to a = E a := by
  simp only [NewRow.to, Ext.with]
  rw [if_neg (fun h' => h h'.1)]
theorem zeroRow_len (z : List Value) (n : Nat) : (zeroRow z n).length = n * z.length := by
  induction n with
  | zero => simp [zeroRow]
  | succ n ih => simp [zeroRow, ih, Nat.succ_mul, Nat.add_comm]
theorem Fill.owned {α : Type} {c : Nat} {en : α → List Value} {l : List α} {E : Ext} {z : List Value} {e : TypeId} {n : Nat} {r : NewRow E (zeroRow z n) e} {k : Nat} {E' : Ext} (hz : z.length = c) (h : Fill c en l r.b r.to k E') (hk : k < n) : Owned E' ⟨r.b, k * c, none⟩ c := by
  refine ⟨rfl, (n * c, e), ?_, ?_⟩
  · show E'.own r.b = _
    rw [h.own, new_own, zeroRow_len, hz]
  · have : (k + 1) * c ≤ n * c := Nat.mul_le_mul_right _ hk
    rw [Nat.succ_mul] at this
    exact this
theorem Fill.made {α : Type} {c : Nat} {en : α → List Value} {l : List α} {E : Ext} {z : List Value} {e : TypeId} {n : Nat} {r : NewRow E (zeroRow z n) e} {E' : Ext} (hz : z.length = c) (h : Fill c en l r.b r.to l.length E') (hn : n = l.length) (hm : l.length ≤ maxLen) : Made e c en ⟨some ⟨r.b, 0, none⟩, n, n⟩ l E E' := by
  refine ⟨⟨hn, by dsimp only; omega, fun h => by simp at h, fun a ha i x hx j v hj => ?_⟩, h.le (new_other r), ⟨r.b, rfl, ?_, r.fresho, r.fresh⟩, fun b p hb => ?_, Nat.le_refl _⟩
  · simp only [Option.some.injEq] at ha
    subst ha
    rw [Go.Deep.add_add, addr_add, Nat.zero_add]
    exact h.cells i x j v (List.getElem?_eq_some_iff.1 hx).1 hx hj
  · rw [h.own, new_own, zeroRow_len, hz]
  · have hne : b ≠ r.b := fun e => by
      have := r.fresho
      rw [← e, hb] at this
      cases this
    refine ⟨?_, fun a ha => ?_⟩
    · rw [h.own, new_own' r hne]
      exact hb
    · rw [h.other a (by rw [ha]; exact hne), new_at r (by rw [ha]; exact hne)]
/-- A row that is not long. -/
structure RowB {α : Type} (en : α → List Value) (c : Nat) (s : SlV) (l : List α) (E : Ext) : Prop where
  row : RowAt en c s l E
  small : l.length ≤ 1048576
theorem RowB.le {α : Type} {en : α → List Value} {c : Nat} {s : SlV} {l : List α} {E E' : Ext} (h : RowB en c s l E) (hE : Ext.le E E') : RowB en c s l E' := ⟨h.row.le hE, h.small⟩
/-! the laws' own functions on lists of fractions -/
abbrev SI : ArgL (SlV × Int × Unit) := .cons .slice (.cons .int .nil)
abbrev SS : ArgL (SlV × SlV × Unit) := .cons .slice (.cons .slice .nil)
theorem wrap_nat {n : Nat} (h : n ≤ maxLen) : IntKind.i64.wrap (n : Int) = n := by unfold maxLen at h; exact wrap_in (by omega) (by omega)
theorem wrap_len {left : Int} {n : Nat} (h : n ≤ maxLen) (h0 : 0 ≤ left) (h1 : left ≤ 1048576) : IntKind.i64.wrap (left - n) = left - n := by unfold maxLen at h; exact wrap_in (by omega) (by omega)
def szR (left : Int) (n : Nat) : Int := if left - n < 0 then -1 else left - n
abbrev szSp : Sp := .pf SI (fun x => x.1.n ≤ maxLen ∧ 0 ≤ x.2.1 ∧ x.2.1 ≤ 1048576) (fun x => .int .i64 (szR x.2.1 x.1.n))
/-! lists with their codes -/
def listC (least : Int) (l : List Q) : Int := if allOk l then (if l.length > 64 ∨ (l.length : Int) < least then 2 else 0) else 1

end Go.Proofs.Ytjibkphhlflpeaa
