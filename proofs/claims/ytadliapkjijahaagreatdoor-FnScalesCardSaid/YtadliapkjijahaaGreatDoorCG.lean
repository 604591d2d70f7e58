/- Rows that grow and parts of rows; no condition. -/
import Derived.Test.YtadliapkjijahaaGreatDoorAb
import Derived.Test.YtadliapkjijahaaGreatDoorC1
import Derived.Test.YtadliapkjijahaaGreatDoorC2
import Derived.Test.YtadliapkjijahaaGreatDoorC3
import Derived.Test.YtadliapkjijahaaGreatDoorC4
import Derived.Test.YtadliapkjijahaaGreatDoorC10
import Derived.Test.YtadliapkjijahaaGreatDoorC12
import Derived.Test.YtadliapkjijahaaGreatDoorC24
import Derived.Test.YtadliapkjijahaaGreatDoorC25
import Derived.Test.YtadliapkjijahaaGreatDoorC30
import Derived.Test.YtadliapkjijahaaGreatDoorCK
import Derived.Test.YtadliapkjijahaaGreatDoorProg
set_option linter.unusedVariables false
set_option linter.unusedSimpArgs false
namespace Go.Proofs.YtadliapkjijahaaGreatDoor
open Ab

open Go.Shelf Go.RowKit Go.Lib Go.Sort
theorem Grow.app {α : Type} {e : TypeId} {c : Nat} {en : α → List Value} {F0 E' E2 : Ext} {o o' x : SlV} {l l2 : List α} (h : Grow e c en F0 o l E') (hp : AppPost E' e c o x (l.flatMap en, l2.flatMap en) o' E2) : Grow e c en F0 o' (l ++ l2) E2 := by
  obtain ⟨h1, h2, h3, h4⟩ := h
  refine ⟨by rw [List.flatMap_append]; exact hp.own, Ext.le_trans h2 hp.le, fun b p hb => ?_, fun a ha => ?_⟩
  · obtain ⟨k1, k2⟩ := h3 b p hb
    obtain ⟨k4, k5⟩ := hp.other b p (fun a ha e => by have := (h4 a ha).1; rw [e, hb] at this; cases this) k1
    exact ⟨k4, fun a ha => by rw [k5 a ha, k2 a ha]⟩
  · rcases hp.fresh a ha with k1 | ⟨k1, k2⟩
    · exact h4 a k1
    · refine ⟨?_, fun a' v hv => k1 a' v (h2 _ _ hv)⟩
      cases ho : F0.own a.block with
      | none => rfl
      | some p =>
        have k3 := (h3 _ p ho).1
        rw [k3] at k2
        cases k2
theorem Grow.fresh0 {α : Type} {e : TypeId} {c : Nat} {en : α → List Value} {E : Ext} (r : NewRow E [] e) : Grow e c en E ⟨some ⟨r.b, 0, none⟩, 0, 0⟩ [] r.to :=
  ⟨own_empty r, r.le, fun b p hb => ⟨by rw [new_own' r (new_ne r hb)]; exact hb, fun a ha => new_at r (by rw [ha]; exact new_ne r hb)⟩, fun a ha => by cases ha; exact ⟨r.fresho, r.fresh⟩⟩
theorem cells_row {s : SlV} {l : List Q} {E : Ext} (h : FracsAt s l E) : RowCells E s 2 (l.flatMap Q.cells) := by
  have hl : (l.flatMap Q.cells).length = l.length * 2 := by
    clear h
    induction l with
    | nil => rfl
    | cons x r ih => rw [List.flatMap_cons, List.length_append, ih, List.length_cons]; show 2 + _ = _; omega
  refine ⟨by rw [hl, h.1], fun hn => by rw [h.1, h.2.2.1 hn]; rfl, fun a ha j v hj => ?_⟩
  have hlt : j < l.length * 2 := by rw [← hl]; exact (List.getElem?_eq_some_iff.1 hj).1
  have h1 : l[j / 2]? = some l[j / 2] := List.getElem?_eq_getElem (by omega)
  have hc : (l[j / 2].cells)[j % 2]? = some v := by
    have h2 : ∃ u, (l[j / 2].cells)[j % 2]? = some u := ⟨_, List.getElem?_eq_getElem (by show j % 2 < 2; omega)⟩
    obtain ⟨u, h2⟩ := h2
    have h3 := flat_at (enc := Q.cells) (c := 2) (fun _ => rfl) h1 h2
    rw [show j / 2 * 2 + j % 2 = j by omega, hj] at h3
    cases h3
    exact h2
  have h4 := h.2.2.2 a ha (j / 2) _ h1 (j % 2) v hc
  rw [Go.Deep.add_add, show j / 2 * 2 + j % 2 = j by omega] at h4
  exact h4
theorem cells_ok (l : List Q) : ∀ u ∈ l.flatMap Q.cells, cellOk u = true := by
  intro u hu
  obtain ⟨x, _, hu⟩ := List.mem_flatMap.1 hu
  simp [Q.cells] at hu
  rcases hu with rfl | rfl <;> rfl
theorem Grow.keeps {α : Type} {e : TypeId} {c : Nat} {en : α → List Value} {E0 E' : Ext} {o : SlV} {l : List α} (h : Grow e c en E0 o l E') : Keeps E0 E' := ⟨h.le, h.keep⟩
theorem Fresh.keeps {α : Type} {e : TypeId} {c : Nat} {en : α → List Value} {E0 E' : Ext} {o : SlV} {l : List α} (h : Fresh e c en o l E0 E') : Keeps E0 E' := ⟨h.le, h.keep⟩
theorem Grow.before {α : Type} {e : TypeId} {c : Nat} {en : α → List Value} {E E0 E' : Ext} {o : SlV} {l : List α} (h : Grow e c en E0 o l E') (k : Keeps E E0) : Grow e c en E o l E' := by
  refine ⟨h.own, (k.trans h.keeps).le, (k.trans h.keeps).keep, fun a ha => ?_⟩
  obtain ⟨h1, h2⟩ := h.fresh a ha
  refine ⟨?_, fun a' v hv => h2 a' v (k.le _ _ hv)⟩
  cases ho : E.own a.block with
  | none => rfl
  | some p => rw [(k.keep _ p ho).1] at h1; cases h1
theorem own_one {E : Ext} {e : TypeId} (x : Q) (r : NewRow E x.cells e) : OwnRow r.to e 2 ⟨some ⟨r.b, 0, none⟩, 1, 1⟩ x.cells :=
  ⟨rfl, Nat.le_refl _, (by decide : 1 ≤ maxLen), .inr ⟨r.b, rfl, by rw [new_own]; rfl, fun j => r.at_ j⟩⟩
theorem Grow.fresh1 {e : TypeId} {E : Ext} (x : Q) (r : NewRow E x.cells e) : Grow e 2 Q.cells E ⟨some ⟨r.b, 0, none⟩, 1, 1⟩ [x] r.to :=
  ⟨by rw [List.flatMap_cons, List.flatMap_nil, List.append_nil]; exact own_one x r, (Keeps.new r).le, (Keeps.new r).keep, fun a ha => by cases ha; exact ⟨r.fresho, r.fresh⟩⟩
/-- A row's end. -/
theorem part_drop {a : Option Addr} {n c : Nat} {l : List Q} {E : Ext} (h : FracsAt ⟨a, n, c⟩ l E) (j : Nat) (hj : j ≤ l.length) (hc : n ≤ c) : FracsAt ⟨partA a c j 2, n - j, c - j⟩ (l.drop j) E := by
  obtain ⟨h1, h2, h3, h4⟩ := h
  dsimp only at h1 h2 h3 h4
  refine ⟨by simp [h1], by dsimp only; omega, fun hn => ?_, fun a' ha i x hx k v hv => ?_⟩
  · dsimp only at hn
    unfold partA at hn
    split at hn
    · rw [h3 hn]; simp
    · cases a with
      | none => rw [h3 rfl]; simp
      | some b => cases hn
  · dsimp only at ha
    rw [List.getElem?_drop] at hx
    unfold partA at ha
    split at ha
    · rename_i hcj
      have := (List.getElem?_eq_some_iff.1 hx).1
      omega
    · cases a with
      | none => cases ha
      | some b =>
        cases ha
        have := h4 b rfl (j + i) x hx k v hv
        rw [Go.Deep.add_add] at this ⊢
        rw [Go.Deep.add_add]
        rw [show j * 2 + (i * 2 + k) = (j + i) * 2 + k by omega]
        exact this
/-- A row's beginning. -/
theorem part_take {a : Option Addr} {n c : Nat} {l : List Q} {E : Ext} (h : FracsAt ⟨a, n, c⟩ l E) (j : Nat) (hj : j ≤ l.length) (c' : Nat) : FracsAt ⟨a, j, c'⟩ (l.take j) E := by
  obtain ⟨h1, h2, h3, h4⟩ := h
  dsimp only at h1 h2 h3 h4
  refine ⟨by simp [hj], by dsimp only; omega, fun hn => ?_, fun a' ha i x hx k v hv => ?_⟩
  · rw [h3 hn]; simp
  · rw [List.getElem?_take] at hx
    split at hx
    · exact h4 a' ha i x hx k v hv
    · cases hx
theorem part_take0 {a : Option Addr} {n c : Nat} {l : List Q} {E : Ext} (h : FracsAt ⟨a, n, c⟩ l E) (j : Nat) (hj : j ≤ l.length) (hc : n ≤ c) : FracsAt ⟨partA a c 0 2, j - 0, c - 0⟩ (l.take j) E :=
  part_drop (part_take h j hj c) 0 (Nat.zero_le _) (by have := h.1; dsimp only at this; omega)
/-! texts in a row -/
def strC (b : ByteArray) : List Value := [.string b]
theorem strC_flat (xs : List ByteArray) : xs.flatMap strC = xs.map Value.string := by
  induction xs with
  | nil => rfl
  | cons x r ih => rw [List.flatMap_cons, ih]; rfl

end Go.Proofs.YtadliapkjijahaaGreatDoor
