/- Contracts of both packages' functions that add up lists of fractions and take their mean, for all lists that lie in memory; conditions: the bounds that each names. -/
import Derived.Test.YtadliapkjijahaaGreatDoorAb
import Derived.Test.YtadliapkjijahaaGreatDoorC1
import Derived.Test.YtadliapkjijahaaGreatDoorC2
import Derived.Test.YtadliapkjijahaaGreatDoorC3
import Derived.Test.YtadliapkjijahaaGreatDoorC4
import Derived.Test.YtadliapkjijahaaGreatDoorC5
import Derived.Test.YtadliapkjijahaaGreatDoorCL
import Derived.Test.YtadliapkjijahaaGreatDoorC6
import Derived.Test.YtadliapkjijahaaGreatDoorC7
import Derived.Test.YtadliapkjijahaaGreatDoorC8
import Derived.Test.YtadliapkjijahaaGreatDoorC9
import Derived.Test.YtadliapkjijahaaGreatDoorCO
import Derived.Test.YtadliapkjijahaaGreatDoorC12
import Derived.Test.YtadliapkjijahaaGreatDoorProg
set_option linter.unusedVariables false
set_option linter.unusedSimpArgs false
namespace Go.Proofs.YtadliapkjijahaaGreatDoor
open Ab

/-- The sum from a number on. -/
def sumO : Q → List Q → Option Q
  | s, [] => some s
  | s, a :: r => (addO s a).bind fun t => sumO t r
/-- What the calculator makes of it. -/
def sumT : Q × Bool → List Q → Q × Bool
  | s, [] => s
  | s, a :: r => sumT (tolO (addO s.1 a), s.2 || (addO s.1 a).isNone) r
theorem sumT_bad : ∀ (l : List Q) (s : Q), (sumT (s, true) l).2 = true
  | [], _ => rfl
  | a :: r, s => by
    unfold sumT
    exact sumT_bad r _
theorem sumT_ok : ∀ (l : List Q) (s : Q × Bool), okQ s.1 = true → okQ (sumT s l).1 = true
  | [], _, h => h
  | a :: r, s, _ => sumT_ok r _ (tolO_add _ _)
theorem sumT_sumO : ∀ (l : List Q) (s : Q), (sumT (s, false) l).2 = (sumO s l).isNone ∧ ∀ t, sumO s l = some t → (sumT (s, false) l).1 = t
  | [], s => ⟨rfl, fun t h => by cases h; rfl⟩
  | a :: r, s => by
    unfold sumT sumO
    cases h : addO s a with
    | none => exact ⟨by simp [sumT_bad], fun t ht => by cases ht⟩
    | some b =>
      simp only [tolO_some, Option.bind_some, Option.isNone_some, Bool.or_false]
      exact sumT_sumO r b
theorem sumT_or : ∀ (l : List Q) (s : Q) (b : Bool), (sumT (s, b) l).1 = (sumT (s, false) l).1 ∧ (sumT (s, b) l).2 = (b || (sumT (s, false) l).2)
  | [], s, b => ⟨rfl, by simp [sumT]⟩
  | a :: r, s, b => by
    unfold sumT
    have h1 := sumT_or r (tolO (addO s a)) (b || (addO s a).isNone)
    have h2 := sumT_or r (tolO (addO s a)) (false || (addO s a).isNone)
    exact ⟨h1.1.trans h2.1.symm, by rw [h1.2, h2.2]; simp [Bool.or_assoc]⟩
theorem sumO_ok : ∀ (l : List Q) (s t : Q), okQ s = true → sumO s l = some t → okQ t = true
  | [], s, t, h, e => by cases e; exact h
  | a :: r, s, t, h, e => by
    unfold sumO at e
    cases h1 : addO s a with
    | none => rw [h1] at e; cases e
    | some b => rw [h1] at e; exact sumO_ok r b t (addO_ok h1) e
theorem drop_at {α : Type} {l : List α} {k : Nat} {x : α} (h : l[k]? = some x) : l.drop k = x :: l.drop (k + 1) := by
  obtain ⟨hl, he⟩ := List.getElem?_eq_some_iff.1 h
  rw [List.drop_eq_getElem_cons hl, he]
def AllRow (s : SlV) (l : List Q) (E : Ext) : Prop := FracsAt s l E ∧ allOk l = true
abbrev Q01 : Q := ⟨0, 1⟩
/-! sums and means -/
def sumR (l : List Q) : Q × Int := if listC 0 l = 0 then outO (sumO Q01 l) else (⟨0, 0⟩, listC 0 l)
def meanO (l : List Q) : Option Q := (sumO Q01 l).bind fun s => divO s ⟨l.length, 1⟩
def meanR (l : List Q) : Q × Int := if listC 1 l = 0 then outO (meanO l) else (⟨0, 0⟩, listC 1 l)
theorem listC_zero {least : Int} {l : List Q} (h : listC least l = 0) : allOk l = true ∧ l.length ≤ 64 ∧ least ≤ l.length := by
  unfold listC at h
  split at h
  · rename_i h1
    split at h
    · cases h
    · exact ⟨h1, by omega, by omega⟩
  · cases h
theorem ne_zero_of {n : Int} (h : (n != 0) = true) : n ≠ 0 := by simpa using h
theorem eq_zero_of {n : Int} (h : (n != 0) = false) : n = 0 := by simpa using h
theorem one_sum {o : Option Q} {v : Q} {b : Bool} (h : b = o.isNone) (hv : ∀ t, o = some t → v = t) : RQ ((if b = true then (⟨0, 0⟩ : Q) else v), (if b = true then (3 : Int) else 0)) = RQ (outO o) := by
  cases o with
  | none => rw [h]; rfl
  | some t => rw [h, hv t rfl]; rfl
theorem divO_whole {a : Q} {n : Nat} (h : 0 < n) : divO a ⟨n, 1⟩ = mkO (opDiv a ⟨n, 1⟩) := by
  unfold divO
  rw [if_neg (by show (n : Int) ≠ 0; omega)]
theorem okQ_nat {n : Nat} (h : n ≤ 64) : okQ ⟨n, 1⟩ = true := okQ_whole (within_iff.2 ⟨by omega, by omega⟩)
/-- A quotient behind a sum. -/
theorem mean_one {l : List Q} {b : Bool} {v : Q} (hb : b = ((sumT (Q01, false) l).2 || (divO (sumT (Q01, false) l).1 ⟨l.length, 1⟩).isNone)) (hv : v = tolO (divO (sumT (Q01, false) l).1 ⟨l.length, 1⟩)) : b = (meanO l).isNone ∧ ∀ t, meanO l = some t → v = t := by
  obtain ⟨h1, h2⟩ := sumT_sumO l Q01
  unfold meanO
  cases h : sumO Q01 l with
  | none => rw [h] at h1; rw [hb, h1]; exact ⟨rfl, fun t ht => by cases ht⟩
  | some s =>
    rw [h] at h1
    rw [h2 s h] at hb hv
    rw [hb, h1, hv]
    refine ⟨rfl, fun t ht => ?_⟩
    rw [Option.bind_some] at ht
    rw [ht, tolO_some]
abbrev meanFSp : Sp := .rf FS (fun x (l : List Q) E => FracsAt x.1 l E) (fun _ l => RQ (meanR l))

end Go.Proofs.YtadliapkjijahaaGreatDoor
