/- The sort with a comparison, at fractions: the contract of the library's function; conditions: valid fractions, at least one. -/
import Derived.Test.YtadliapkjijahaaGreatDoorAb
import Derived.Test.YtadliapkjijahaaGreatDoorC1
import Derived.Test.YtadliapkjijahaaGreatDoorC2
import Derived.Test.YtadliapkjijahaaGreatDoorC3
import Derived.Test.YtadliapkjijahaaGreatDoorC10
import Derived.Test.YtadliapkjijahaaGreatDoorC12
import Derived.Test.YtadliapkjijahaaGreatDoorC24
import Derived.Test.YtadliapkjijahaaGreatDoorC25
import Derived.Test.YtadliapkjijahaaGreatDoorCK
import Derived.Test.YtadliapkjijahaaGreatDoorCN
import Derived.Test.YtadliapkjijahaaGreatDoorCS
import Derived.Test.YtadliapkjijahaaGreatDoorC40
import Derived.Test.YtadliapkjijahaaGreatDoorProg
set_option linter.unusedVariables false
set_option linter.unusedSimpArgs false
namespace Go.Proofs.YtadliapkjijahaaGreatDoor
open Ab

open Go.Shelf Go.RowKit Go.Lib Go.Sort
theorem vtot (x y : VQ) (h : ltOf vcmp x y = false) (k : ltOf vcmp y x = false) : x = y := by
  rw [vlt] at h k
  have h1 := of_decide_eq_false h
  have k1 := of_decide_eq_false k
  exact Subtype.ext (cmp_zero x.2 y.2 (by unfold cmpQ; rw [if_neg h1, if_neg k1]))
theorem VQ.two (x : VQ) : x.cells.length = 2 := rfl
theorem flatK_at {d : List VQ} {t : Nat} (h : t < d.length * 2) : (d.flatMap VQ.cells)[t]? = some ((flatK VQ.cells 2 d.toArray)[t]!) := by
  have hi : t / 2 < d.length := by omega
  have h1 : d[t / 2]? = some d[t / 2] := List.getElem?_eq_getElem hi
  have hj : t % 2 < (VQ.cells d[t / 2]).length := by rw [VQ.two]; omega
  have h2 : (VQ.cells d[t / 2])[t % 2]? = some ((VQ.cells d[t / 2])[t % 2]!) := by rw [List.getElem?_eq_getElem hj, List.getElem!_eq_getElem?_getD, List.getElem?_eq_getElem hj]; rfl
  have h3 := flat_at (enc := VQ.cells) (c := 2) VQ.two h1 h2
  rw [show t / 2 * 2 + t % 2 = t by omega] at h3
  rw [h3, get_flatK _ _ _ _ (by simpa using h)]
  simp [List.getElem?_eq_getElem hi]
theorem flat_len (d : List VQ) : (d.flatMap VQ.cells).length = d.length * 2 := by
  induction d with
  | nil => rfl
  | cons x r ih => rw [List.flatMap_cons, List.length_append, ih, VQ.two, List.length_cons]; omega
theorem cell_of {w : World} {b j : Nat} {cur : Array Value} {t : TypeId} (h : w.heap[b]? = some (Obj.cells cur t (0, 0))) : w.cell? ⟨b, j, none⟩ = cur[j]? := by
  simp [World.cell?, h]
theorem frozen_of {w : World} {b j : Nat} {cur : Array Value} {t : TypeId} (h : w.heap[b]? = some (Obj.cells cur t (0, 0))) : w.frozen? ⟨b, j, none⟩ = false := by
  simp [World.frozen?, h]
theorem holds_of {w : World} {β : List Nat} {m : Mem} {E F0 : Ext} {w0 : World} {β0 : List Nat} (hR : Rel w0 β0 F0 β m E w) {b : Nat} {p : Nat × TypeId} (ho : E.own b = some p) {d : List VQ} (hE : ∀ j, E ⟨b, j, none⟩ = (d.flatMap VQ.cells)[j]?) : HoldsK VQ.cells 2 w b 0 d.toArray := by
  obtain ⟨_, _, cur, g3, g4⟩ := hR.own b p ho
  intro j hj
  have hj' : j < d.length * 2 := by simpa using hj
  refine ⟨?_, frozen_of g3⟩
  rw [Nat.zero_add]
  exact (hR.ext ⟨b, j, none⟩ _ ((hE j).trans (flatK_at hj'))).1
theorem Rel.sorts {w0 w : World} {β0 β : List Nat} {m : Mem} {F0 E : Ext} (hR : Rel w0 β0 F0 β m E w) {b : Nat} {p : Nat × TypeId} (ho : E.own b = some p) {d : List VQ} (hd : d.length * 2 ≤ p.1) (n : Nat) (os : Array Obj) : Rel w0 β0 F0 β m (E.upd b 0 (d.flatMap VQ.cells)) (sortWorldK VQ.cells 2 w b 0 n d.toArray os) := by
  obtain ⟨_, _, cur, g3, g4⟩ := hR.own b p ho
  unfold sortWorldK
  refine Rel.grows ?_ os
  have hb : b < w.heap.size := hR.own_lt ho
  have hheap : ∀ j, (putRowK VQ.cells 2 (Sort.ahead w n) b 0 d.toArray).heap[j]? = if b = j then (w.heap[j]?).map (onCells (putCells id 0 (flatK VQ.cells 2 d.toArray))) else w.heap[j]? := fun j => by
    unfold putRowK putRow mapBlock
    dsimp only [Sort.ahead]
    rw [Array.getElem?_modify]
  refine Rel.wrote hR ho 0 (d.flatMap VQ.cells) (putCells id 0 (flatK VQ.cells 2 d.toArray) cur) rfl rfl ⟨rfl, Nat.le_add_right _ _⟩ ?_ ?_ ?_ ?_ ?_
  · unfold putRowK putRow mapBlock
    simp [Sort.ahead]
  · rw [hheap b, if_pos rfl, g3]
    rfl
  · unfold putCells
    simp [g4]
  · intro j hj
    rw [hheap j, if_neg (fun h => hj h.symm)]
  · intro j v hv
    rw [flat_len] at hv
    unfold putCells
    rw [Array.getElem?_mapIdx]
    by_cases hlt : j < d.length * 2
    · rw [if_pos ⟨Nat.zero_le _, by omega⟩, Nat.sub_zero, flatK_at hlt] at hv
      have hc : j < cur.size := by omega
      rw [Array.getElem?_eq_getElem hc, Option.map_some, if_pos ⟨Nat.zero_le _, by simpa using hlt⟩]
      exact hv
    · rw [if_neg (by omega)] at hv
      have h1 := (hR.ext ⟨b, j, none⟩ v hv).1
      rw [cell_of g3] at h1
      rw [h1, Option.map_some, if_neg (by simp; omega)]
def vsort (d : List VQ) : List VQ := d.mergeSort fun x y => !ltOf vcmp y x
theorem vsort_len (d : List VQ) : (vsort d).length = d.length := List.length_mergeSort _
/-- A row that is sorted in its place. -/
structure SortTo (s : SlV) (d : List VQ) (E E' : Ext) : Prop where
  row : OwnRow E' 25 2 s ((vsort d).flatMap VQ.cells)
  own : E'.own = E.own
  rest : ∀ a, (∀ a', s.a = some a' → a.block ≠ a'.block) → E' a = E a
abbrev SFA : ArgL (SlV × Unit × Unit) := .cons .slice (.cons (.fnc 101) .nil)
abbrev sortSp : Sp := .nf SFA (fun x (d : List VQ) E => OwnRow E 25 2 x.1 (d.flatMap VQ.cells) ∧ 1 ≤ d.length ∧ d.length ≤ 1048576) (fun _ _ (_ : Unit) => .tuple #[]) (fun x d _ E E' => Side (SortTo x.1 d E E'))
theorem sort_ok : Sp.ok Tryz.prog 100 sortSp := by
  intro bs m E K hk w β vs hR hl hv
  simp only [Sp.nf] at hk
  split at hk
  · rename_i us hus
    split at hk
    · rename_i x hx
      obtain ⟨d, hp, hk⟩ := hk
      obtain ⟨hrow, hd1, hd2⟩ := hp.out
      have he := SFA.ok hx
      have hb' := plains_eq hus
      subst hb'
      have hvs := vs_of hl hv
      subst hvs
      obtain ⟨⟨sa, n, c⟩, u, u'⟩ := x
      have hrow0 := hrow
      obtain ⟨h1, h2, h3, h4⟩ := hrow
      dsimp only at h1 h2 h3 h4
      rw [flat_len] at h1
      have hn : n = d.length := by omega
      rcases h4 with ⟨_, h4, _⟩ | ⟨b, rfl, ho, hE⟩
      · omega
      have hus' : us.toArray = #[.slice (some ⟨b, 0, none⟩) d.toArray.size c, .func (.func 101) #[] #[]] := by
        rw [he, hn]
        simp
        rfl
      rw [hus']
      have hcon := AnyQ.slices_SortFunc_total sortF 2 (fun w => prun_none (by kernel_rfl) w) (fun w => prun_none (by kernel_rfl) w) VQ.cells VQ.two (fun x v hv => by simp [VQ.cells, Q.cells] at hv; rcases hv with rfl | rfl <;> rfl) vcmp vswo 101 #[] b 0 c d.toArray w (enters Tryz.func101 rfl rfl).run (asc_lays b 0 _ w) (holds_of hR ho hE) (hR.own_lt ho) (by simp; omega) vtot
      refine Calls.mono (show Calls Tryz.prog 100 _ w _ from hcon) ?_
      rintro e w' ⟨rfl, n', os, rfl⟩
      have hlen : (vsort d).length * 2 ≤ c * 2 := by rw [vsort_len]; omega
      refine ⟨.v (.tuple #[]), m, E.upd b 0 ((vsort d).flatMap VQ.cells), β, _, rfl, rfl, Rel.sorts hR ho (d := vsort d) hlen n' os, hk () _ (Side.mk ⟨⟨?_, h2, h3, .inr ⟨b, rfl, ho, fun j => ?_⟩⟩, rfl, fun a ha => upd_other (ha _ rfl)⟩)⟩
      · rw [flat_len, vsort_len, hn]
      · by_cases hj : j < ((vsort d).flatMap VQ.cells).length
        · rw [upd_in (Nat.zero_le _) (by omega)]
          rfl
        · rw [upd_out (.inr (by omega)), hE, List.getElem?_eq_none (by rw [flat_len] at *; rw [vsort_len] at hj; omega), List.getElem?_eq_none (by omega)]
    · cases hk
  · cases hk

end Go.Proofs.YtadliapkjijahaaGreatDoor
