/- The least and the greatest of a sorted list of fractions; condition: valid fractions. -/
import Derived.Test.YtadliapkjijahaaGreatDoorAb
import Derived.Test.YtadliapkjijahaaGreatDoorC1
import Derived.Test.YtadliapkjijahaaGreatDoorC2
import Derived.Test.YtadliapkjijahaaGreatDoorC3
import Derived.Test.YtadliapkjijahaaGreatDoorC10
import Derived.Test.YtadliapkjijahaaGreatDoorC12
import Derived.Test.YtadliapkjijahaaGreatDoorCN
import Derived.Test.YtadliapkjijahaaGreatDoorCS
import Derived.Test.YtadliapkjijahaaGreatDoorC39
import Derived.Test.YtadliapkjijahaaGreatDoorC40
import Derived.Test.YtadliapkjijahaaGreatDoorC41
import Derived.Test.YtadliapkjijahaaGreatDoorProg
set_option linter.unusedVariables false
set_option linter.unusedSimpArgs false
namespace Go.Proofs.YtadliapkjijahaaGreatDoor
open Ab

open Go.Shelf Go.RowKit Go.Lib Go.Sort
theorem vsort_pair (d : List VQ) : (vsort d).Pairwise (fun x y => (!ltOf vcmp y x) = true) := by
  refine List.pairwise_mergeSort (fun a b c h k => ?_) (fun a b => ?_) d
  · have h1 : ltOf vcmp b a = false := by simpa using h
    have k1 : ltOf vcmp c b = false := by simpa using k
    simp [vswo.ntrans c b a k1 h1]
  · cases h : ltOf vcmp b a with
    | false => simp
    | true =>
      cases k : ltOf vcmp a b with
      | false => simp
      | true =>
        have := vswo.trans a b a k h
        rw [vswo.irrefl] at this
        cases this
theorem vsort_mem {d : List VQ} {x : VQ} : x ∈ vsort d ↔ x ∈ d := List.mem_mergeSort
theorem vsort_least {d : List VQ} {x : VQ} (h : (vsort d)[0]? = some x) : x ∈ d ∧ ∀ y ∈ d, ltOf vcmp y x = false := by
  have hp := vsort_pair d
  have hm : x ∈ vsort d := List.mem_of_getElem? h
  refine ⟨vsort_mem.1 hm, fun y hy => ?_⟩
  have hy' := vsort_mem.2 hy
  cases hs : vsort d with
  | nil => rw [hs] at h; cases h
  | cons z r =>
    rw [hs] at h hp hy'
    cases h
    rcases List.mem_cons.1 hy' with rfl | hy'
    · exact vswo.irrefl _
    · simpa using (List.pairwise_cons.1 hp).1 y hy'
theorem vsort_most {d : List VQ} {x : VQ} {n : Nat} (hn : d.length = n + 1) (h : (vsort d)[n]? = some x) : x ∈ d ∧ ∀ y ∈ d, ltOf vcmp x y = false := by
  have hp := vsort_pair d
  have hm : x ∈ vsort d := List.mem_of_getElem? h
  refine ⟨vsort_mem.1 hm, fun y hy => ?_⟩
  obtain ⟨i, hi⟩ := List.mem_iff_getElem?.1 (vsort_mem.2 hy)
  have hl : i < (vsort d).length := (List.getElem?_eq_some_iff.1 hi).1
  have hl' := vsort_len d
  by_cases hin : i = n
  · subst hin
    rw [hi] at h
    cases h
    exact vswo.irrefl _
  · have h1 := (List.getElem?_eq_some_iff.1 hi)
    have h2 := (List.getElem?_eq_some_iff.1 h)
    obtain ⟨a1, a2⟩ := h1
    obtain ⟨b1, b2⟩ := h2
    have := (List.pairwise_iff_getElem.1 hp) i n a1 b1 (by omega)
    rw [a2, b2] at this
    simpa using this
/-- The least is one. -/
theorem least_one {d : List VQ} {x y : VQ} (hx : x ∈ d ∧ ∀ z ∈ d, ltOf vcmp z x = false) (hy : y ∈ d ∧ ∀ z ∈ d, ltOf vcmp z y = false) : x = y := vtot x y (hy.2 x hx.1) (hx.2 y hy.1)
theorem most_one {d : List VQ} {x y : VQ} (hx : x ∈ d ∧ ∀ z ∈ d, ltOf vcmp x z = false) (hy : y ∈ d ∧ ∀ z ∈ d, ltOf vcmp y z = false) : x = y := vtot x y (hx.2 y hy.1) (hy.2 x hx.1)
def Least (d : List VQ) (m : VQ) : Prop := m ∈ d ∧ ∀ z ∈ d, ltOf vcmp z m = false
def Most (d : List VQ) (m : VQ) : Prop := m ∈ d ∧ ∀ z ∈ d, ltOf vcmp m z = false
theorem least_step {d : List VQ} {m p : VQ} (h : Least d m) : ∃ m' : VQ, m'.1 = minQ m.1 p.1 ∧ Least (d ++ [p]) m' := by
  obtain ⟨h1, h2⟩ := h
  by_cases hc : cmpQ p.1 m.1 < 0
  · have hl : ltOf vcmp p m = true := decide_eq_true hc
    refine ⟨p, by unfold minQ; rw [if_pos hc], by simp, fun z hz => ?_⟩
    rcases List.mem_append.1 hz with hz | hz
    · cases hq : ltOf vcmp z p with
      | false => rfl
      | true =>
        have := vswo.trans z p m hq hl
        rw [h2 z hz] at this
        cases this
    · rw [List.mem_singleton.1 hz]; exact vswo.irrefl _
  · have hl : ltOf vcmp p m = false := decide_eq_false hc
    refine ⟨m, by unfold minQ; rw [if_neg hc], List.mem_append_left _ h1, fun z hz => ?_⟩
    rcases List.mem_append.1 hz with hz | hz
    · exact h2 z hz
    · rw [List.mem_singleton.1 hz]; exact hl
theorem cmpQ_flip (a b : Q) : cmpQ a b > 0 ↔ cmpQ b a < 0 := by unfold cmpQ; split <;> split <;> (try split) <;> omega
theorem most_step {d : List VQ} {m p : VQ} (h : Most d m) : ∃ m' : VQ, m'.1 = maxQ m.1 p.1 ∧ Most (d ++ [p]) m' := by
  obtain ⟨h1, h2⟩ := h
  by_cases hc : cmpQ p.1 m.1 > 0
  · have hl : ltOf vcmp m p = true := decide_eq_true ((cmpQ_flip _ _).1 hc)
    refine ⟨p, by unfold maxQ; rw [if_pos hc], by simp, fun z hz => ?_⟩
    rcases List.mem_append.1 hz with hz | hz
    · cases hq : ltOf vcmp p z with
      | false => rfl
      | true =>
        have := vswo.trans m p z hl hq
        rw [h2 z hz] at this
        cases this
    · rw [List.mem_singleton.1 hz]; exact vswo.irrefl _
  · have hl : ltOf vcmp m p = false := decide_eq_false (fun h => hc ((cmpQ_flip _ _).2 h))
    refine ⟨m, by unfold maxQ; rw [if_neg hc], List.mem_append_left _ h1, fun z hz => ?_⟩
    rcases List.mem_append.1 hz with hz | hz
    · exact h2 z hz
    · rw [List.mem_singleton.1 hz]; exact hl
/-- Four products, folded, are the ends of the four sorted. -/
theorem goM_four (p0 p1 p2 p3 : VQ) {x z : VQ} (hx : (vsort [p0, p1, p2, p3])[0]? = some x) (hz : (vsort [p0, p1, p2, p3])[3]? = some z) : goM [some p1.1, some p2.1, some p3.1] ⟨p0.1, p0.1⟩ = some ⟨x.1, z.1⟩ := by
  have l0 : Least [p0] p0 := ⟨by simp, fun z hz => by rw [List.mem_singleton.1 hz]; exact vswo.irrefl _⟩
  have m0 : Most [p0] p0 := ⟨by simp, fun z hz => by rw [List.mem_singleton.1 hz]; exact vswo.irrefl _⟩
  obtain ⟨a1, e1, l1⟩ := least_step (p := p1) l0
  obtain ⟨a2, e2, l2⟩ := least_step (p := p2) l1
  obtain ⟨a3, e3, l3⟩ := least_step (p := p3) l2
  obtain ⟨b1, f1, m1⟩ := most_step (p := p1) m0
  obtain ⟨b2, f2, m2⟩ := most_step (p := p2) m1
  obtain ⟨b3, f3, m3⟩ := most_step (p := p3) m2
  have hx' := least_one (vsort_least hx) l3
  have hz' := most_one (vsort_most (n := 3) rfl hz) m3
  rw [goM, Option.bind_some, goM, Option.bind_some, goM, Option.bind_some, goM]
  dsimp only
  rw [← e1, ← f1, ← e2, ← f2, ← e3, ← f3, hx', hz']

end Go.Proofs.YtadliapkjijahaaGreatDoor
