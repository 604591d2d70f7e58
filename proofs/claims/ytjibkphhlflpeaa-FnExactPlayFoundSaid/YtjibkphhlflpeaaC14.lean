/- Contracts of both packages' functions on scales, their marks and their errors, and of the laws' own on scales, for all arguments that lie in memory; conditions: the bounds that each names. -/
import Derived.Test.YtjibkphhlflpeaaAb
import Derived.Test.YtjibkphhlflpeaaC1
import Derived.Test.YtjibkphhlflpeaaC2
import Derived.Test.YtjibkphhlflpeaaC3
import Derived.Test.YtjibkphhlflpeaaC4
import Derived.Test.YtjibkphhlflpeaaC5
import Derived.Test.YtjibkphhlflpeaaCL
import Derived.Test.YtjibkphhlflpeaaC6
import Derived.Test.YtjibkphhlflpeaaC7
import Derived.Test.YtjibkphhlflpeaaC8
import Derived.Test.YtjibkphhlflpeaaC9
import Derived.Test.YtjibkphhlflpeaaCO
import Derived.Test.YtjibkphhlflpeaaC12
import Derived.Test.YtjibkphhlflpeaaProg
set_option linter.unusedVariables false
set_option linter.unusedSimpArgs false
namespace Go.Proofs.Ytjibkphhlflpeaa
open Ab

abbrev C1A : ArgL (Scl × Unit) := .cons sclA .nil
abbrev CI : ArgL (Scl × Int × Unit) := .cons sclA (.cons .int .nil)
abbrev CC : ArgL (Scl × Scl × Unit) := .cons sclA (.cons sclA .nil)
/-! the laws' own -/
/-! valid scales -/
def sizQ (a : Q) : Q := ⟨a.p.natAbs, a.q⟩
theorem okQ_size {a : Q} (h : okQ a = true) : okQ (sizQ a) = true := by
  rw [okQ_iff] at *
  obtain ⟨h1, h2, h3, h4, h5⟩ := h
  refine ⟨h1, h2, ?_, ?_, ?_⟩
  · show -1000000000 ≤ (a.p.natAbs : Int); omega
  · show (a.p.natAbs : Int) ≤ 1000000000; omega
  · show Int.gcd (a.p.natAbs : Int) a.q = 1; rw [gcd_absl]; exact h5
def smE (u e : Q) : Bool := !decide (4 * (e.p.natAbs : Int) * u.q > u.p * e.q)
def markO (u : Q) (k : Nat) (e : Q) : Option Q := (mulO ⟨k, 1⟩ u).bind fun a => addO a e
def okE (u : Q) (k : Nat) (e : Q) : Bool := okQ e && (smE u e && (markO u k e).isSome)
def okEs (u : Q) : Nat → List Q → Bool
  | _, [] => true
  | k, e :: r => okE u k e && okEs u (k + 1) r
abbrev Q0 : Q := ⟨0, 0⟩
def okC (u : Q) (l : List Q) : Bool := witQ u 1000 && (withinB l.length 2 60 && okEs u 0 l)
theorem witQ_ok {u : Q} {m : Int} (h : witQ u m = true) : okQ u = true ∧ 0 < u.p := by
  simp only [witQ, Bool.and_eq_true, decide_eq_true_eq] at h
  exact ⟨h.1, h.2.1⟩
theorem okEs_at {u : Q} : ∀ {l : List Q} {k i : Nat} {e : Q}, okEs u k l = true → l[i]? = some e → okE u (k + i) e = true
  | [], _, _, _, _, h => by simp at h
  | a :: r, k, 0, e, h, hi => by
    simp only [okEs, Bool.and_eq_true] at h
    cases hi
    exact h.1
  | a :: r, k, i + 1, e, h, hi => by
    simp only [okEs, Bool.and_eq_true] at h
    have := okEs_at h.2 (i := i) (by simpa using hi)
    rwa [show k + (i + 1) = k + 1 + i by omega]
theorem okC_iff {u : Q} {l : List Q} (h : okC u l = true) : okQ u = true ∧ 0 < u.p ∧ 2 ≤ l.length ∧ l.length ≤ 60 ∧ allOk l = true ∧ ∀ i e, l[i]? = some e → ∃ m, markO u i e = some m ∧ okQ m = true := by
  simp only [okC, Bool.and_eq_true] at h
  obtain ⟨h1, h2, h3⟩ := h
  have h2 := within_iff.1 h2
  refine ⟨(witQ_ok h1).1, (witQ_ok h1).2, by omega, by omega, allOk_iff.2 fun i q hi => ?_, fun i e hi => ?_⟩
  · have := okEs_at h3 hi
    simp only [okE, Bool.and_eq_true] at this
    exact this.1
  · have := okEs_at h3 hi
    rw [Nat.zero_add] at this
    simp only [okE, Bool.and_eq_true] at this
    obtain ⟨m, hm⟩ := Option.isSome_iff_exists.1 this.2.2
    refine ⟨m, hm, ?_⟩
    unfold markO at hm
    cases h : mulO ⟨i, 1⟩ u with
    | none => rw [h] at hm; cases hm
    | some a => rw [h] at hm; exact addO_ok hm
/-- What the calculator makes of a mark. -/
def markT (u : Q) (k : Nat) (e : Q) : Q := tolO (addO (tolO (mulO ⟨k, 1⟩ u)) e)
theorem markT_none (u : Q) (k : Nat) (e : Q) : (markO u k e).isNone = ((mulO ⟨k, 1⟩ u).isNone || (addO (tolO (mulO ⟨k, 1⟩ u)) e).isNone) := by
  unfold markO
  cases h : mulO ⟨k, 1⟩ u with
  | none => rfl
  | some a => simp [tolO_some]
theorem markT_some {u : Q} {k : Nat} {e m : Q} (h : markO u k e = some m) : markT u k e = m := by
  unfold markO at h
  unfold markT
  cases h1 : mulO ⟨k, 1⟩ u with
  | none => rw [h1] at h; cases h
  | some a =>
    rw [h1] at h
    simp only [Option.bind_some] at h
    rw [tolO_some, h, tolO_some]
theorem sm_wrap {u e : Q} (hu : okQ u = true) (he : okQ e = true) : IntKind.i64.wrap (4 * (e.p.natAbs : Int)) = 4 * (e.p.natAbs : Int) ∧ IntKind.i64.wrap (4 * (e.p.natAbs : Int) * u.q) = 4 * (e.p.natAbs : Int) * u.q ∧ IntKind.i64.wrap (u.p * e.q) = u.p * e.q := by
  obtain ⟨u1, u2, u3, u4, _⟩ := okQ_iff.1 hu
  obtain ⟨e1, e2, e3, e4, _⟩ := okQ_iff.1 he
  have h1 := mul_b (a := (e.p.natAbs : Int)) (b := u.q) (by omega) (by omega)
  have h2 := mul_b (a := u.p) (b := e.q) (by omega) (by omega)
  refine ⟨wrap_in (by omega) (by omega), wrap_in ?_ ?_, wrap18 h2⟩
  · rw [Int.mul_assoc]; omega
  · rw [Int.mul_assoc]; omega
theorem okQ_idx {k : Nat} (h : k ≤ 60) : okQ ⟨k, 1⟩ = true := okQ_whole (within_iff.2 ⟨by omega, by omega⟩)
theorem okEs_step {u e : Q} {k : Nat} {l : List Q} (hkl : l[k]? = some e) : okEs u k (l.drop k) = (okE u k e && okEs u (k + 1) (l.drop (k + 1))) := by
  rw [List.drop_eq_getElem_cons (List.getElem?_eq_some_iff.1 hkl).1, (List.getElem?_eq_some_iff.1 hkl).2, okEs]
theorem okEs_all {u : Q} : ∀ {l : List Q} {k : Nat}, okEs u k l = true → allOk l = true
  | [], _, _ => rfl
  | a :: r, k, h => by
    simp only [okEs, Bool.and_eq_true] at h
    have h1 := h.1
    simp only [okE, Bool.and_eq_true] at h1
    have h2 : r.all okQ = true := okEs_all h.2
    simp [allOk, h1.1, h2]
abbrev scaleOkVSp : Sp := .rf C1A (fun x (l : List Q) E => FracsAt x.1.errs l E) (fun x l => .bool (okC x.1.unit l))

end Go.Proofs.Ytjibkphhlflpeaa
