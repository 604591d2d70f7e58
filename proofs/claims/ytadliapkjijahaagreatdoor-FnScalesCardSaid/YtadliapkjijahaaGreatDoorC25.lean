/- Rows that are appended to, and the contracts of both packages' functions that share out a closing; for all lists that lie in memory; no other condition. -/
import Derived.Test.YtadliapkjijahaaGreatDoorAb
import Derived.Test.YtadliapkjijahaaGreatDoorC1
import Derived.Test.YtadliapkjijahaaGreatDoorC2
import Derived.Test.YtadliapkjijahaaGreatDoorC3
import Derived.Test.YtadliapkjijahaaGreatDoorC4
import Derived.Test.YtadliapkjijahaaGreatDoorC5
import Derived.Test.YtadliapkjijahaaGreatDoorCL
import Derived.Test.YtadliapkjijahaaGreatDoorC6
import Derived.Test.YtadliapkjijahaaGreatDoorC7
import Derived.Test.YtadliapkjijahaaGreatDoorC8
import Derived.Test.YtadliapkjijahaaGreatDoorC9
import Derived.Test.YtadliapkjijahaaGreatDoorCO
import Derived.Test.YtadliapkjijahaaGreatDoorC12
import Derived.Test.YtadliapkjijahaaGreatDoorC24
import Derived.Test.YtadliapkjijahaaGreatDoorProg
set_option linter.unusedVariables false
set_option linter.unusedSimpArgs false
namespace Go.Proofs.YtadliapkjijahaaGreatDoor
open Ab

/-! rows that grow -/
theorem new_ne {E : Ext} {cs : List Value} {e : TypeId} (r : NewRow E cs e) {b : Nat} {p : Nat × TypeId} (h : E.own b = some p) : b ≠ r.b := fun e => by
  have := r.fresho
  rw [← e, h] at this
  cases this
theorem OwnRow.new {E : Ext} {e e' : TypeId} {sz : Nat} {s : SlV} {xs cs : List Value} (r : NewRow E cs e') (h : OwnRow E e sz s xs) : OwnRow r.to e sz s xs := by
  obtain ⟨h1, h2, h3, h4⟩ := h
  refine ⟨h1, h2, h3, ?_⟩
  rcases h4 with h4 | ⟨b, hb, ho, hx⟩
  · exact .inl h4
  · have hne := new_ne r ho
    exact .inr ⟨b, hb, by rw [new_own' r hne]; exact ho, fun j => by rw [new_at r (by exact hne)]; exact hx j⟩
theorem own_empty {E : Ext} {e : TypeId} {sz : Nat} (r : NewRow E [] e) : OwnRow r.to e sz ⟨some ⟨r.b, 0, none⟩, 0, 0⟩ [] :=
  ⟨by simp, Nat.le_refl _, Nat.zero_le _, .inr ⟨r.b, rfl, by rw [new_own]; simp, fun j => r.at_ j⟩⟩
theorem cells_new {E : Ext} {e : TypeId} {cs : List Value} {sz n c : Nat} (r : NewRow E cs e) (h : cs.length = n * sz) : RowCells r.to ⟨some ⟨r.b, 0, none⟩, n, c⟩ sz cs :=
  ⟨h, fun h => by simp at h, fun a ha j v hj => by
    simp only [Option.some.injEq] at ha
    subst ha
    rw [addr_add, Nat.zero_add, r.at_]
    exact hj⟩
theorem OwnRow.rowAt {α : Type} {en : α → List Value} {c : Nat} (hc : ∀ x, (en x).length = c) (h0 : 0 < c) {E : Ext} {e : TypeId} {s : SlV} {l : List α} (h : OwnRow E e c s (l.flatMap en)) : RowAt en c s l E := by
  obtain ⟨h1, h2, h3, h4⟩ := h
  have hl : (l.flatMap en).length = l.length * c := by
    clear h1 h4
    induction l with
    | nil => simp
    | cons a r ih => rw [List.flatMap_cons, List.length_append, hc, ih, List.length_cons, Nat.succ_mul, Nat.add_comm]
  have hn : s.n = l.length := Nat.eq_of_mul_eq_mul_right h0 (h1.symm.trans hl)
  refine ⟨hn, Nat.le_trans h2 h3, fun ha => ?_, fun a ha i x hx j v hj => ?_⟩
  · rcases h4 with ⟨_, h5, _⟩ | ⟨b, hb, _⟩
    · exact List.length_eq_zero_iff.1 (by omega)
    · rw [ha] at hb; cases hb
  · rcases h4 with ⟨h5, _⟩ | ⟨b, hb, _, hx'⟩
    · rw [ha] at h5; cases h5
    · rw [ha] at hb
      cases hb
      rw [Go.Deep.add_add, addr_add, Nat.zero_add, hx']
      exact flat_at hc hx hj
theorem own_ints {E : Ext} {e : TypeId} {s : SlV} {l : List Int} (h : OwnRow E e 1 s (l.flatMap i64c)) : IntsL s l E := OwnRow.rowAt (en := i64c) (c := 1) (fun _ => rfl) Nat.one_pos h
theorem flat_push {α : Type} {en : α → List Value} {l : List α} {x : α} : (l ++ [x]).flatMap en = l.flatMap en ++ en x := by simp
theorem Ext.le_trans {E E' E'' : Ext} (h : Ext.le E E') (k : Ext.le E' E'') : Ext.le E E'' := fun a v ha => k a v (h a v ha)
/-! sharing out -/
def shaT (e n : Int) (i : Nat) (x : Int) : Int := x - (((i : Int) + 1) * e / n - (i : Int) * e / n)
def shaL (l : List Int) : List Int := l.mapIdx fun i x => shaT (cloI l) l.length i x
def shaR (l : List Int) : List Int := if secOk l then shaL l else []
def shaC (l : List Int) : Int := if secOk l then 0 else 2
theorem shaL_at {l : List Int} {k : Nat} {q : Int} (h : l[k]? = some q) : (shaL l)[k]? = some (shaT (cloI l) l.length k q) := by simp [shaL, h]
theorem shaL_take {l : List Int} {k : Nat} {q : Int} (h : l[k]? = some q) : (shaL l).take (k + 1) = (shaL l).take k ++ [shaT (cloI l) l.length k q] := by
  rw [List.take_add_one, shaL_at h]
  rfl
theorem shaL_len (l : List Int) : (shaL l).length = l.length := by simp [shaL]
theorem clo_b {l : List Int} (h : secOk l = true) : -1296000 ≤ cloI l ∧ cloI l ≤ 92016000 := by
  have := sum_kb h l.length
  rw [List.take_of_length_le (Nat.le_refl _)] at this
  unfold cloI
  omega
theorem ke_b {k : Nat} {e : Int} (hk : k ≤ 72) (he : -1296000 ≤ e ∧ e ≤ 92016000) : -7000000000 ≤ (k : Int) * e ∧ (k : Int) * e ≤ 7000000000 := by
  have h1 : k * e.natAbs ≤ 72 * 92016000 := Nat.mul_le_mul hk (by omega)
  have h2 : ((k : Int) * e).natAbs = k * e.natAbs := by rw [Int.natAbs_mul]; rfl
  omega
theorem div_b {a n : Int} (hn : 1 ≤ n) (ha : -7000000000 ≤ a ∧ a ≤ 7000000000) : -7000000000 ≤ a / n ∧ a / n ≤ 7000000000 :=
  ⟨Int.le_ediv_of_mul_le (by omega) (by omega), Int.ediv_le_of_le_mul (by omega) (by omega)⟩
structure ShaW (k : Nat) (e n q : Int) : Prop where
  w1 : IntKind.i64.wrap ((k : Int) + 1) = (k : Int) + 1
  w2 : IntKind.i64.wrap (((k : Int) + 1) * e) = ((k : Int) + 1) * e
  w3 : IntKind.i64.wrap ((k : Int) * e) = (k : Int) * e
  w4 : IntKind.i64.wrap (((k : Int) + 1) * e / n - (k : Int) * e / n) = ((k : Int) + 1) * e / n - (k : Int) * e / n
  w5 : IntKind.i64.wrap (q - (((k : Int) + 1) * e / n - (k : Int) * e / n)) = shaT e n k q
  b1 : B4 (((k : Int) + 1) * e)
  b2 : B4 ((k : Int) * e)
theorem sha_w {l : List Int} (h : secOk l = true) {k : Nat} {q : Int} (hk : l[k]? = some q) : ShaW k (cloI l) l.length q := by
  obtain ⟨h1, h2, h3⟩ := secOk_iff h
  have hq := h3 q (List.mem_of_getElem? hk)
  have hlt := (List.getElem?_eq_some_iff.1 hk).1
  have he := clo_b h
  have b1 := ke_b (k := k) (by omega) he
  have b2 := ke_b (k := k + 1) (by omega) he
  rw [show ((k + 1 : Nat) : Int) = (k : Int) + 1 from rfl] at b2
  have hn : 1 ≤ (l.length : Int) := by omega
  have d1 := div_b hn b1
  have d2 := div_b hn b2
  exact ⟨wrap_in (by omega) (by omega), wrap_in (by omega) (by omega), wrap_in (by omega) (by omega), wrap_in (by omega) (by omega), wrap_in (by omega) (by omega), by unfold B4; omega, by unfold B4; omega⟩
abbrev shaSp : Sp := .nf FS (fun x (l : List Int) E => IntsL x.1 l E) (fun _ l y => .tuple #[SlV.v y, .int .i64 (shaC l)]) (fun _ l y E E' => IntsL y (shaR l) E' ∧ Ext.le E E')
theorem shaC_ok {l : List Int} (h : secOk l = true) : shaC l = 0 := if_pos h
theorem shaC_no {l : List Int} (h : secOk l = false) : shaC l = 2 := if_neg (by simp [h])
theorem shaR_ok {l : List Int} (h : secOk l = true) : shaR l = shaL l := if_pos h
theorem shaR_no {l : List Int} (h : secOk l = false) : shaR l = [] := if_neg (by simp [h])
theorem ints_nil {E : Ext} {a : Option Addr} {c : Nat} : IntsL ⟨a, 0, c⟩ [] E := ⟨rfl, Nat.zero_le _, fun _ => rfl, fun a _ i x hx => by simp at hx⟩
/-! the plain law -/
theorem shaL_sum {l : List Int} : ∀ (k : Nat), k ≤ l.length → ((shaL l).take k).sum = (l.take k).sum - (k : Int) * cloI l / l.length
  | 0, _ => by simp
  | k + 1, h => by
    have hk : l[k]? = some (l[k]'(by omega)) := List.getElem?_eq_getElem (by omega)
    rw [sum_take (shaL_at hk), sum_take hk, shaL_sum k (by omega)]
    unfold shaT
    rw [show ((k + 1 : Nat) : Int) = (k : Int) + 1 from rfl]
    omega
theorem shaL_all {l : List Int} (h : secOk l = true) : (shaL l).sum = 1296000 := by
  have h1 := shaL_sum (l := l) l.length (Nat.le_refl _)
  rw [List.take_of_length_le (by rw [shaL_len]; exact Nat.le_refl _), List.take_of_length_le (Nat.le_refl _)] at h1
  have h2 := (secOk_iff h).1
  rw [h1, Int.mul_ediv_cancel_left _ (by omega)]
  unfold cloI
  omega
theorem sha_wrap {l : List Int} (h : secOk l = true) {k : Nat} {q : Int} (hk : (shaL l)[k]? = some q) : IntKind.i64.wrap (((shaL l).take k).sum + q) = ((shaL l).take (k + 1)).sum := by
  have hlt : k < l.length := by rw [← shaL_len]; exact (List.getElem?_eq_some_iff.1 hk).1
  obtain ⟨h1, h2, h3⟩ := secOk_iff h
  rw [← sum_take hk, shaL_sum (k + 1) hlt]
  have b1 := ke_b (k := k + 1) (by omega) (clo_b h)
  have d1 := div_b (n := l.length) (by omega) b1
  have b2 := sum_kb h (k + 1)
  exact wrap_in (by omega) (by omega)

end Go.Proofs.YtadliapkjijahaaGreatDoor
