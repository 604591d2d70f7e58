/- Parts of rows and insertion into a sorted list; condition: valid fractions. -/
import Derived.Test.YtoolfecbiifplaaAb
import Derived.Test.YtoolfecbiifplaaC1
import Derived.Test.YtoolfecbiifplaaC2
import Derived.Test.YtoolfecbiifplaaC3
import Derived.Test.YtoolfecbiifplaaC4
import Derived.Test.YtoolfecbiifplaaC10
import Derived.Test.YtoolfecbiifplaaC12
import Derived.Test.YtoolfecbiifplaaC25
import Derived.Test.YtoolfecbiifplaaC30
import Derived.Test.YtoolfecbiifplaaCN
import Derived.Test.YtoolfecbiifplaaCS
import Derived.Test.YtoolfecbiifplaaC40
import Derived.Test.YtoolfecbiifplaaC41
import Derived.Test.YtoolfecbiifplaaC42
import Derived.Test.YtoolfecbiifplaaC43
import Derived.Test.YtoolfecbiifplaaC39
import Derived.Test.YtoolfecbiifplaaProg
set_option linter.unusedVariables false
set_option linter.unusedSimpArgs false
namespace Go.Proofs.Ytoolfecbiifplaa
open Ab

open Go.Shelf Go.RowKit Go.Lib Go.Sort
structure Keeps (E E' : Ext) : Prop where
  le : Ext.le E E'
  keep : ∀ b p, E.own b = some p → E'.own b = some p ∧ ∀ a, a.block = b → E' a = E a
theorem Keeps.refl (E : Ext) : Keeps E E := ⟨fun _ _ h => h, fun b p h => ⟨h, fun _ _ => rfl⟩⟩
theorem Keeps.trans {E E1 E' : Ext} (h : Keeps E E1) (k : Keeps E1 E') : Keeps E E' := by
  refine ⟨Ext.le_trans h.le k.le, fun b p hb => ?_⟩
  obtain ⟨k1, k2⟩ := h.keep b p hb
  obtain ⟨k3, k4⟩ := k.keep b p k1
  exact ⟨k3, fun a ha => by rw [k4 a ha, k2 a ha]⟩
theorem Keeps.new {E : Ext} {cs : List Value} {e : TypeId} (r : NewRow E cs e) : Keeps E r.to :=
  ⟨r.le, fun b p hb => ⟨by rw [new_own' r (new_ne r hb)]; exact hb, fun a ha => new_at r (by rw [ha]; exact new_ne r hb)⟩⟩
theorem Grow.keeps {α : Type} {e : TypeId} {c : Nat} {en : α → List Value} {E0 E' : Ext} {o : SlV} {l : List α} (h : Grow e c en E0 o l E') : Keeps E0 E' := ⟨h.le, h.keep⟩
theorem Fresh.keeps {α : Type} {e : TypeId} {c : Nat} {en : α → List Value} {E0 E' : Ext} {o : SlV} {l : List α} (h : Fresh e c en o l E0 E') : Keeps E0 E' := ⟨h.le, h.keep⟩
theorem Grow.before {α : Type} {e : TypeId} {c : Nat} {en : α → List Value} {E E0 E' : Ext} {o : SlV} {l : List α} (h : Grow e c en E0 o l E') (k : Keeps E E0) : Grow e c en E o l E' := by
  refine ⟨h.own, (k.trans h.keeps).le, (k.trans h.keeps).keep, fun a ha => ?_⟩
  obtain ⟨h1, h2⟩ := h.fresh a ha
  refine ⟨?_, fun a' v hv => h2 a' v (k.le _ _ hv)⟩
  cases ho : E.own a.block with
  | none => rfl
  | some p => rw [(k.keep _ p ho).1] at h1; cases h1
theorem own_one {E : Ext} {e : TypeId} (x : Q) (r : NewRow E x.cells e) : OwnRow r.to e 2 ⟨some ⟨r.b, 0, none⟩, 1, 1⟩ x.cells :=
  ⟨rfl, Nat.le_refl _, (by decide : 1 ≤ maxLen), .inr ⟨r.b, rfl, by rw [new_own]; rfl, fun j => r.at_ j⟩⟩
theorem Grow.fresh1 {e : TypeId} {E : Ext} (x : Q) (r : NewRow E x.cells e) : Grow e 2 Q.cells E ⟨some ⟨r.b, 0, none⟩, 1, 1⟩ [x] r.to :=
  ⟨by rw [List.flatMap_cons, List.flatMap_nil, List.append_nil]; exact own_one x r, (Keeps.new r).le, (Keeps.new r).keep, fun a ha => by cases ha; exact ⟨r.fresho, r.fresh⟩⟩
/-- A row's end. -/
theorem part_drop {a : Option Addr} {n c : Nat} {l : List Q} {E : Ext} (h : FracsAt ⟨a, n, c⟩ l E) (j : Nat) (hj : j ≤ l.length) (hc : n ≤ c) : FracsAt ⟨partA a c j 2, n - j, c - j⟩ (l.drop j) E := by
  obtain ⟨h1, h2, h3, h4⟩ := h
  dsimp only at h1 h2 h3 h4
  refine ⟨by simp [h1], by dsimp only; omega, fun hn => ?_, fun a' ha i x hx k v hv => ?_⟩
  · dsimp only at hn
    unfold partA at hn
    split at hn
    · rw [h3 hn]; simp
    · cases a with
      | none => rw [h3 rfl]; simp
      | some b => cases hn
  · dsimp only at ha
    rw [List.getElem?_drop] at hx
    unfold partA at ha
    split at ha
    · rename_i hcj
      have := (List.getElem?_eq_some_iff.1 hx).1
      omega
    · cases a with
      | none => cases ha
      | some b =>
        cases ha
        have := h4 b rfl (j + i) x hx k v hv
        rw [Go.Deep.add_add] at this ⊢
        rw [Go.Deep.add_add]
        rw [show j * 2 + (i * 2 + k) = (j + i) * 2 + k by omega]
        exact this
/-- A row's beginning. -/
theorem part_take {a : Option Addr} {n c : Nat} {l : List Q} {E : Ext} (h : FracsAt ⟨a, n, c⟩ l E) (j : Nat) (hj : j ≤ l.length) (c' : Nat) : FracsAt ⟨a, j, c'⟩ (l.take j) E := by
  obtain ⟨h1, h2, h3, h4⟩ := h
  dsimp only at h1 h2 h3 h4
  refine ⟨by simp [hj], by dsimp only; omega, fun hn => ?_, fun a' ha i x hx k v hv => ?_⟩
  · rw [h3 hn]; simp
  · rw [List.getElem?_take] at hx
    split at hx
    · exact h4 a' ha i x hx k v hv
    · cases hx
theorem part_take0 {a : Option Addr} {n c : Nat} {l : List Q} {E : Ext} (h : FracsAt ⟨a, n, c⟩ l E) (j : Nat) (hj : j ≤ l.length) (hc : n ≤ c) : FracsAt ⟨partA a c 0 2, j - 0, c - 0⟩ (l.take j) E :=
  part_drop (part_take h j hj c) 0 (Nat.zero_le _) (by have := h.1; dsimp only at this; omega)
/-! sorting by insertion -/
def insV (x : VQ) : List VQ → List VQ
  | [] => [x]
  | y :: r => if cmpQ y.1 x.1 ≤ 0 then y :: insV x r else x :: y :: r
def srtV (l : List VQ) : List VQ := l.foldl (fun r x => insV x r) []
theorem insV_perm (x : VQ) : ∀ l : List VQ, (insV x l).Perm (x :: l)
  | [] => .refl _
  | y :: r => by
    unfold insV
    split
    · exact ((insV_perm x r).cons y).trans (.swap x y r)
    · exact .refl _
theorem insV_at (x : VQ) : ∀ (l : List VQ) (j : Nat), j ≤ l.length → (∀ i y, i < j → l[i]? = some y → cmpQ y.1 x.1 ≤ 0) → (∀ y, l[j]? = some y → ¬ cmpQ y.1 x.1 ≤ 0) → insV x l = l.take j ++ ([x] ++ l.drop j)
  | [], j, hj, _, _ => by
    obtain rfl : j = 0 := by simpa using hj
    rfl
  | y :: r, 0, _, _, h => by
    unfold insV
    rw [if_neg (h y rfl)]
    rfl
  | y :: r, j + 1, hj, h, h' => by
    unfold insV
    rw [if_pos (h 0 y (by omega) rfl), insV_at x r j (by simpa using hj) (fun i z hi hz => h (i + 1) z (by omega) (by simpa using hz)) (fun z hz => h' z (by simpa using hz))]
    rfl
theorem le_lt {x y : VQ} : cmpQ y.1 x.1 ≤ 0 ↔ ltOf vcmp x y = false := by
  have h : ltOf vcmp x y = decide (cmpQ x.1 y.1 < 0) := rfl
  rw [h, decide_eq_false_iff_not]
  have := cmpQ_flip y.1 x.1
  omega
theorem insV_pair (x : VQ) : ∀ l : List VQ, l.Pairwise (fun x y => (!ltOf vcmp y x) = true) → (insV x l).Pairwise (fun x y => (!ltOf vcmp y x) = true)
  | [], _ => by unfold insV; exact List.pairwise_singleton _ _
  | y :: r, h => by
    obtain ⟨h1, h2⟩ := List.pairwise_cons.1 h
    unfold insV
    split
    · rename_i hc
      refine List.pairwise_cons.2 ⟨fun z hz => ?_, insV_pair x r h2⟩
      rcases List.mem_cons.1 ((insV_perm x r).mem_iff.1 hz) with rfl | hz
      · rw [le_lt.1 hc]; rfl
      · exact h1 z hz
    · rename_i hc
      have hxy : ltOf vcmp x y = true := by
        cases hq : ltOf vcmp x y with
        | true => rfl
        | false => exact absurd (le_lt.2 hq) hc
      refine List.pairwise_cons.2 ⟨fun z hz => ?_, h⟩
      have hyx : ltOf vcmp y x = false := by
        cases hq : ltOf vcmp y x with
        | false => rfl
        | true => have := vswo.trans x y x hxy hq; rw [vswo.irrefl] at this; cases this
      rcases List.mem_cons.1 hz with rfl | hz
      · rw [hyx]; rfl
      · have hzy : ltOf vcmp z y = false := by simpa using h1 z hz
        cases hq : ltOf vcmp z x with
        | false => rfl
        | true => have := vswo.trans z x y hq hxy; rw [hzy] at this; cases this
theorem fold_perm : ∀ (l r : List VQ), (l.foldl (fun r x => insV x r) r).Perm (l ++ r)
  | [], r => .refl _
  | x :: l, r => by
    rw [List.foldl_cons]
    refine (fold_perm l _).trans ?_
    refine (List.Perm.append_left l (insV_perm x r)).trans ?_
    exact List.perm_middle
theorem fold_pair : ∀ (l r : List VQ), r.Pairwise (fun x y => (!ltOf vcmp y x) = true) → (l.foldl (fun r x => insV x r) r).Pairwise (fun x y => (!ltOf vcmp y x) = true)
  | [], _, h => h
  | x :: l, r, h => by rw [List.foldl_cons]; exact fold_pair l _ (insV_pair x r h)
theorem srtV_push (l : List VQ) (x : VQ) : srtV (l ++ [x]) = insV x (srtV l) := by unfold srtV; rw [List.foldl_append]; rfl
theorem srtV_len (l : List VQ) : (srtV l).length = l.length := by have := (fold_perm l []).length_eq; simpa [srtV] using this
/-- Both ways of sorting come to one. -/
theorem sorted_one : ∀ (l r : List VQ), l.Perm r → l.Pairwise (fun x y => (!ltOf vcmp y x) = true) → r.Pairwise (fun x y => (!ltOf vcmp y x) = true) → l = r
  | [], r, h, _, _ => (List.nil_perm.1 h).symm
  | x :: l, [], h, _, _ => by cases List.perm_nil.1 h
  | x :: l, y :: r, h, h1, h2 => by
    obtain ⟨h3, h4⟩ := List.pairwise_cons.1 h1
    obtain ⟨h5, h6⟩ := List.pairwise_cons.1 h2
    have hxy : x = y := by
      rcases List.mem_cons.1 (h.mem_iff.1 (List.mem_cons_self ..)) with e | hx
      · exact e
      rcases List.mem_cons.1 (h.mem_iff.2 (List.mem_cons_self ..)) with e | hy
      · exact e.symm
      exact vtot x y (by simpa using h5 x hx) (by simpa using h3 y hy)
    subst hxy
    rw [sorted_one l r (List.Perm.cons_inv h) h4 h6]
theorem srtV_eq (l : List VQ) : srtV l = vsort l := by
  refine sorted_one _ _ ?_ (fold_pair l [] .nil) (vsort_pair l)
  have h1 : (srtV l).Perm l := by have := fold_perm l []; rwa [List.append_nil] at this
  exact h1.trans (List.mergeSort_perm l _).symm

end Go.Proofs.Ytoolfecbiifplaa
