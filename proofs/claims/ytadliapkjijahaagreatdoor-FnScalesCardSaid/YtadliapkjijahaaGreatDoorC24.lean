/- Contracts of the functions on lists of whole numbers: copies, comparisons, sectors and their closing; for all lists that lie in memory; conditions: the bounds that each names. -/
import Derived.Test.YtadliapkjijahaaGreatDoorAb
import Derived.Test.YtadliapkjijahaaGreatDoorC1
import Derived.Test.YtadliapkjijahaaGreatDoorC2
import Derived.Test.YtadliapkjijahaaGreatDoorC3
import Derived.Test.YtadliapkjijahaaGreatDoorC4
import Derived.Test.YtadliapkjijahaaGreatDoorC5
import Derived.Test.YtadliapkjijahaaGreatDoorCL
import Derived.Test.YtadliapkjijahaaGreatDoorC6
import Derived.Test.YtadliapkjijahaaGreatDoorC7
import Derived.Test.YtadliapkjijahaaGreatDoorC8
import Derived.Test.YtadliapkjijahaaGreatDoorC9
import Derived.Test.YtadliapkjijahaaGreatDoorCO
import Derived.Test.YtadliapkjijahaaGreatDoorC12
import Derived.Test.YtadliapkjijahaaGreatDoorProg
set_option linter.unusedVariables false
set_option linter.unusedSimpArgs false
namespace Go.Proofs.YtadliapkjijahaaGreatDoor
open Ab

abbrev i64c (n : Int) : List Value := [.int .i64 n]
abbrev IntsL (s : SlV) (l : List Int) (E : Ext) : Prop := RowAt i64c 1 s l E
theorem IntsL.at {s : SlV} {l : List Int} {E : Ext} (h : IntsL s l E) {a : Addr} (ha : s.a = some a) {k : Nat} {q : Int} (hk : l[k]? = some q) : E (a.add ((k : Int).toNat * 1)) = some (.int .i64 q) := h.at1 ha hk rfl
/-! sectors -/
def secB (n : Int) : Bool := withinB n 1 1296000
def secOk (l : List Int) : Bool := withinB l.length 1 72 && l.all secB
theorem secOk_iff {l : List Int} (h : secOk l = true) : 1 ≤ l.length ∧ l.length ≤ 72 ∧ ∀ x ∈ l, 1 ≤ x ∧ x ≤ 1296000 := by
  simp only [secOk, Bool.and_eq_true, List.all_eq_true] at h
  have h1 := within_iff.1 h.1
  exact ⟨by omega, by omega, fun x hx => within_iff.1 (h.2 x hx)⟩
theorem sum_take {l : List Int} {k : Nat} {q : Int} (h : l[k]? = some q) : (l.take (k + 1)).sum = (l.take k).sum + q := by
  rw [List.take_add_one, h]
  simp
theorem sum_b {l : List Int} (h : ∀ x ∈ l, 1 ≤ x ∧ x ≤ 1296000) : 0 ≤ l.sum ∧ l.sum ≤ 1296000 * l.length := by
  induction l with
  | nil => simp
  | cons a r ih =>
    have h1 := h a List.mem_cons_self
    have h2 := ih fun x hx => h x (List.mem_cons_of_mem _ hx)
    simp only [List.sum_cons, List.length_cons]
    omega
theorem sum_kb {l : List Int} (h : secOk l = true) (k : Nat) : 0 ≤ (l.take k).sum ∧ (l.take k).sum ≤ 1296000 * 72 := by
  obtain ⟨_, h2, h3⟩ := secOk_iff h
  have := sum_b (l := l.take k) fun x hx => h3 x (List.mem_of_mem_take hx)
  have h4 : (l.take k).length ≤ 72 := by simp; omega
  omega
def cloI (l : List Int) : Int := l.sum - 1296000
def cloR (l : List Int) : Int × Int := grd 0 (secOk l) 2 (cloI l, 0)
abbrev secSp : Sp := .rf FS (fun x (l : List Int) E => IntsL x.1 l E) (fun _ l => .int .i64 (if secOk l then 0 else 2))
abbrev cloSp : Sp := .rf FS (fun x (l : List Int) E => IntsL x.1 l E) (fun _ l => RI (cloR l))

end Go.Proofs.YtadliapkjijahaaGreatDoor
