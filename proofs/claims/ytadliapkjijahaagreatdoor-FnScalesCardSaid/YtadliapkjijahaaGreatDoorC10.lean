/- Contracts of both packages' functions on screws and spindles, for all arguments within the bounds that each names; no other condition. -/
import Derived.Test.YtadliapkjijahaaGreatDoorAb
import Derived.Test.YtadliapkjijahaaGreatDoorC1
import Derived.Test.YtadliapkjijahaaGreatDoorC2
import Derived.Test.YtadliapkjijahaaGreatDoorC3
import Derived.Test.YtadliapkjijahaaGreatDoorC4
import Derived.Test.YtadliapkjijahaaGreatDoorC5
import Derived.Test.YtadliapkjijahaaGreatDoorCL
import Derived.Test.YtadliapkjijahaaGreatDoorC6
import Derived.Test.YtadliapkjijahaaGreatDoorC7
import Derived.Test.YtadliapkjijahaaGreatDoorC8
import Derived.Test.YtadliapkjijahaaGreatDoorC9
import Derived.Test.YtadliapkjijahaaGreatDoorCO
import Derived.Test.YtadliapkjijahaaGreatDoorProg
set_option linter.unusedVariables false
set_option linter.unusedSimpArgs false
namespace Go.Proofs.YtadliapkjijahaaGreatDoor
open Ab

theorem nat_eq_of_cross {a b c d : Nat} (h : a * d = c * b) (h1 : Nat.gcd a b = 1) (h2 : Nat.gcd c d = 1) (hb : 0 < b) (hd : 0 < d) : b = d := by
  have k1 : b ∣ d := by
    have : b ∣ a * d := ⟨c, by rw [h, Nat.mul_comm]⟩
    exact Nat.Coprime.dvd_of_dvd_mul_left (show Nat.Coprime b a by rw [Nat.coprime_comm]; exact h1) this
  have k2 : d ∣ b := by
    have : d ∣ c * b := ⟨a, by rw [← h, Nat.mul_comm]⟩
    exact Nat.Coprime.dvd_of_dvd_mul_left (show Nat.Coprime d c by rw [Nat.coprime_comm]; exact h2) this
  exact Nat.le_antisymm (Nat.le_of_dvd hd k1) (Nat.le_of_dvd hb k2)
/-- Valid fractions of one value are one. -/
theorem cmp_zero {a b : Q} (ha : okQ a = true) (hb : okQ b = true) (h : cmpQ a b = 0) : a = b := by
  obtain ⟨a1, a2, a3, a4, a5⟩ := okQ_iff.1 ha
  obtain ⟨b1, b2, b3, b4, b5⟩ := okQ_iff.1 hb
  have he : a.p * b.q = b.p * a.q := by
    unfold cmpQ at h
    split at h
    · cases h
    · split at h
      · cases h
      · omega
  have hn : a.p.natAbs * b.q.natAbs = b.p.natAbs * a.q.natAbs := by rw [← Int.natAbs_mul, ← Int.natAbs_mul, he]
  have hq := nat_eq_of_cross hn a5 b5 (by omega) (by omega)
  have hq' : a.q = b.q := by omega
  have hp : a.p = b.p := by
    rw [hq'] at he
    exact Int.eq_of_mul_eq_mul_right (by omega) he
  cases a
  cases b
  simp_all
theorem greQ_comm {a b : Q} (ha : okQ a = true) (hb : okQ b = true) : greQ a b = greQ b a := by
  unfold greQ
  have hn := cmpQ_neg a b
  by_cases h : cmpQ a b = 0
  · rw [cmp_zero ha hb h]
  · by_cases h1 : 0 ≤ cmpQ a b
    · rw [if_pos h1, if_neg (by omega)]
    · rw [if_neg h1, if_pos (by omega)]
theorem lesQ_comm {a b : Q} (ha : okQ a = true) (hb : okQ b = true) : lesQ a b = lesQ b a := by
  unfold lesQ
  have hn := cmpQ_neg a b
  by_cases h : cmpQ a b = 0
  · rw [cmp_zero ha hb h]
  · by_cases h1 : cmpQ a b ≤ 0
    · rw [if_pos h1, if_neg (by omega)]
    · rw [if_neg h1, if_pos (by omega)]
def nutO (m : Scr) (t : Int) : Option Q := (mulO ⟨t, 1⟩ m.pitch).bind fun a => divO a ⟨m.parts, 1⟩
def endsO (m : Scr) (t : Int) : Option Sn := (nutO m t).bind fun n => (subO n m.play).map fun l => ⟨l, n⟩
def outS (o : Option Sn) : Sn × Int := match o with
  | some s => (s, 0)
  | none => (⟨⟨0, 0⟩, ⟨0, 0⟩⟩, 3)
theorem outS_ne (o : Option Sn) : ((outS o).2 != 0) = o.isNone := by cases o <;> rfl
theorem outS_eq (o : Option Sn) : ((outS o).2 == 0) = o.isSome := by cases o <;> rfl
theorem nutO_ok {m : Scr} {t : Int} {a : Q} (h : nutO m t = some a) : okQ a = true := by
  unfold nutO at h
  cases h1 : mulO ⟨t, 1⟩ m.pitch with
  | none => rw [h1] at h; cases h
  | some b => rw [h1] at h; exact divO_ok h
theorem endsO_ok {m : Scr} {t : Int} {e : Sn} (h : endsO m t = some e) : okQ e.lo = true ∧ okQ e.hi = true := by
  unfold endsO at h
  cases h1 : nutO m t with
  | none => rw [h1] at h; cases h
  | some b =>
    rw [h1] at h
    cases h2 : subO b m.play with
    | none => simp [h2] at h
    | some c =>
      simp [h2] at h
      subst h
      exact ⟨subO_ok h2, nutO_ok h1⟩
/-- What the calculator makes of it. -/
def nutA (m : Scr) (t : Int) : Q := tolO (divO (tolO (mulO ⟨t, 1⟩ m.pitch)) ⟨m.parts, 1⟩)
def nutL (m : Scr) (t : Int) : Q := tolO (subO (nutA m t) m.play)
def nutB (m : Scr) (t : Int) : Bool := (mulO ⟨t, 1⟩ m.pitch).isNone || (divO (tolO (mulO ⟨t, 1⟩ m.pitch)) ⟨m.parts, 1⟩).isNone || (subO (nutA m t) m.play).isNone
theorem nutB_none (m : Scr) (t : Int) : nutB m t = (endsO m t).isNone := by
  unfold nutB endsO nutA nutO
  cases h1 : mulO ⟨t, 1⟩ m.pitch with
  | none => rfl
  | some a =>
    simp only [tolO_some, Option.bind_some]
    cases h2 : divO a ⟨m.parts, 1⟩ with
    | none => rfl
    | some b =>
      simp only [tolO_some, Option.bind_some]
      cases h3 : subO b m.play <;> rfl
theorem nut_some {m : Scr} {t : Int} {e : Sn} (h : endsO m t = some e) : nutA m t = e.hi ∧ nutL m t = e.lo ∧ nutO m t = some e.hi := by
  unfold nutL nutA endsO nutO at *
  cases h1 : mulO ⟨t, 1⟩ m.pitch with
  | none => rw [h1] at h; cases h
  | some a =>
    rw [h1] at h
    simp only [tolO_some, Option.bind_some] at *
    cases h2 : divO a ⟨m.parts, 1⟩ with
    | none => rw [h2] at h; cases h
    | some b =>
      rw [h2] at h
      simp only [tolO_some, Option.bind_some] at *
      cases h3 : subO b m.play with
      | none => rw [h3] at h; cases h
      | some c =>
        rw [h3] at h
        cases h
        exact ⟨by first | rfl | simp only [tolO_some], by first | rfl | simp only [tolO_some], by first | rfl | simp only [tolO_some]⟩
theorem okQ_nutA (m : Scr) (t : Int) : okQ (nutA m t) = true := tolO_div _ _
theorem okQ_nutL (m : Scr) (t : Int) : okQ (nutL m t) = true := tolO_sub _ _
theorem parts_whole {m : Scr} (h : okM m = true) : okQ ⟨m.parts, 1⟩ = true := by
  have := okM_parts h
  exact okQ_whole (within_iff.2 (by omega))
abbrev MI : ArgL (Scr × Int × Unit) := .cons scrA (.cons .int .nil)
/-! spindles -/
def okX (m : Scr) (x : Spn) : Bool := okM m && (withinB x.turned (-10000) 10000 && (okQ x.pos && (match endsO m x.turned with
  | some e => inS e x.pos
  | none => false)))
abbrev XL : ArgL (Scr × Spn × Unit) := .cons scrA (.cons spnA .nil)
abbrev XI : ArgL (Scr × Spn × Int × Unit) := .cons scrA (.cons spnA (.cons .int .nil))
theorem M9_of {n : Int} (h : -1000000000 ≤ n) (h' : n ≤ 1000000000) : M9 n = true := within_iff.2 ⟨h, h'⟩
theorem okX_iff {m : Scr} {x : Spn} (h : okX m x = true) : okM m = true ∧ withinB x.turned (-10000) 10000 = true ∧ okQ x.pos = true ∧ ∃ e, endsO m x.turned = some e ∧ inS e x.pos = true := by
  unfold okX at h
  simp only [Bool.and_eq_true] at h
  obtain ⟨h1, h2, h3, h4⟩ := h
  refine ⟨h1, h2, h3, ?_⟩
  cases he : endsO m x.turned with
  | none => rw [he] at h4; cases h4
  | some e => rw [he] at h4; exact ⟨e, rfl, h4⟩
theorem M9_in {n : Int} (h : withinB n (-10000) 10000 = true) : M9 n = true := by
  have := within_iff.1 h
  exact M9_of (by omega) (by omega)
abbrev spinVSp : Sp := .pf XL (fun _ => True) (fun x => .bool (okX x.1 x.2.1))

end Go.Proofs.YtadliapkjijahaaGreatDoor
