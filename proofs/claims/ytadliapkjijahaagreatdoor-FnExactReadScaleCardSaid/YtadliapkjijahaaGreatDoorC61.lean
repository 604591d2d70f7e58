/- Rows that are marked, wherever they begin: contracts of the laws' own marks; conditions: the bounds that each names. -/
import Derived.Test.YtadliapkjijahaaGreatDoorAb
import Derived.Test.YtadliapkjijahaaGreatDoorC1
import Derived.Test.YtadliapkjijahaaGreatDoorC2
import Derived.Test.YtadliapkjijahaaGreatDoorC3
import Derived.Test.YtadliapkjijahaaGreatDoorC4
import Derived.Test.YtadliapkjijahaaGreatDoorC5
import Derived.Test.YtadliapkjijahaaGreatDoorCL
import Derived.Test.YtadliapkjijahaaGreatDoorC6
import Derived.Test.YtadliapkjijahaaGreatDoorC7
import Derived.Test.YtadliapkjijahaaGreatDoorC8
import Derived.Test.YtadliapkjijahaaGreatDoorC9
import Derived.Test.YtadliapkjijahaaGreatDoorCO
import Derived.Test.YtadliapkjijahaaGreatDoorC10
import Derived.Test.YtadliapkjijahaaGreatDoorC12
import Derived.Test.YtadliapkjijahaaGreatDoorC14
import Derived.Test.YtadliapkjijahaaGreatDoorC25
import Derived.Test.YtadliapkjijahaaGreatDoorC30
import Derived.Test.YtadliapkjijahaaGreatDoorCK
import Derived.Test.YtadliapkjijahaaGreatDoorProg
set_option linter.unusedVariables false
set_option linter.unusedSimpArgs false
namespace Go.Proofs.YtadliapkjijahaaGreatDoor
open Ab

/-- A row of one's own, n elements of two cells from place o on. -/
def RowOwnO (s : SlV) (b o : Nat) (E : Ext) : Prop := s.n ≤ 1048576 ∧ (s.n = 0 ∨ (s.a = some ⟨b, o, none⟩ ∧ ∃ p, E.own b = some p ∧ o + s.n * 2 ≤ p.1))
/-- The marks so far. -/
structure MarkToO (b o : Nat) (k : Int) (i : Nat) (E E' : Ext) : Prop where
  own : E'.own = E.own
  other : ∀ a, a.block ≠ b → E' a = E a
  zero : i = 0 → E' = E
  cells : ∀ j, j < i → E' ⟨b, o + j * 2, none⟩ = some (.int .i64 (k + 2 * (j : Int))) ∧ E' ⟨b, o + j * 2 + 1, none⟩ = some (.int .i64 (k + 2 * (j : Int) + 1))
theorem MarkToO.start {b o : Nat} {k : Int} {E : Ext} : MarkToO b o k 0 E E := ⟨rfl, fun _ _ => rfl, fun _ => rfl, fun j h => absurd h (Nat.not_lt_zero _)⟩
theorem MarkToO.step {b o : Nat} {k : Int} {i : Nat} {E E' : Ext} (h : MarkToO b o k i E E') : MarkToO b o k (i + 1) E ((E'.upd b (o + i * 2) [.int .i64 (k + 2 * (i : Int))]).upd b (o + i * 2 + 1) [.int .i64 (k + 2 * (i : Int) + 1)]) := by
  refine ⟨h.own, fun a ha => (upd_other ha).trans ((upd_other ha).trans (h.other a ha)), fun h0 => by omega, fun j hj => ?_⟩
  by_cases hji : j = i
  · subst hji
    refine ⟨?_, ?_⟩
    · rw [upd_out (.inl (by omega)), upd_in (by omega) (by simp), show o + j * 2 - (o + j * 2) = 0 by omega]
      rfl
    · rw [upd_in (by omega) (by simp), show o + j * 2 + 1 - (o + j * 2 + 1) = 0 by omega]
      rfl
  · obtain ⟨h1, h2⟩ := h.cells j (by omega)
    refine ⟨?_, ?_⟩
    · rw [upd_out (.inl (by omega)), upd_out (.inl (by omega))]
      exact h1
    · rw [upd_out (.inl (by omega)), upd_out (.inl (by omega))]
      exact h2
theorem MarkToO.done {s : SlV} {b o : Nat} {k : Int} {E E' : Ext} (h : MarkToO b o k s.n E E') (ha : s.n = 0 ∨ s.a = some ⟨b, o, none⟩) (hn : s.n ≤ maxLen) : Marked s b k E E' := by
  refine ⟨h.own, h.other, h.zero, ⟨(mrk_len _ _).symm, hn, fun h0 => ?_, fun a h1 i x hx j v hj => ?_⟩⟩
  · rcases ha with ha | ha
    · rw [ha]; simp [mrk]
    · rw [h0] at ha; cases ha
  · have hi : i < s.n := by have := (List.getElem?_eq_some_iff.1 hx).1; rwa [mrk_len] at this
    rcases ha with ha | ha
    · omega
    rw [ha] at h1
    cases h1
    rw [mrk_at hi] at hx
    cases hx
    obtain ⟨g0, g1⟩ := h.cells i hi
    rw [Go.Deep.add_add, addr_add]
    match j, hj with
    | 0, hj => cases hj; exact g0
    | 1, hj => cases hj; exact g1
abbrev markOSp : Sp := .nf SI (fun x (b : Nat × Nat) E => RowOwnO x.1 b.1 b.2 E ∧ 0 ≤ x.2.1 ∧ x.2.1 ≤ 16777216) (fun x _ (_ : Unit) => .int .i64 (x.2.1 + 2 * x.1.n)) (fun x b _ E E' => Side (Marked x.1 b.1 x.2.1 E E'))

set_option maxHeartbeats 2000000 in
set_option maxRecDepth 100000 in
theorem markO_ok : Sp.ok Tryz.prog 75 markOSp := by
  refine Sp.nf_ok (T := ⟨[], []⟩) follows eqok0 trivial [] Tryz.func75 rfl (by kernel_rfl) _ _ _ _ fun x bo E hp => ?_
  obtain ⟨⟨sa, n, c⟩, z0, u⟩ := x
  obtain ⟨b, o⟩ := bo
  obtain ⟨⟨hn, hr⟩, hz0, hz1⟩ := hp
  dsimp only at hn hr hz0 hz1
  conv => whnf
  refine ⟨fun m s => ∃ (k : Nat) (i z : Int) (E' : Ext) (g2 g3 g4 g6 g7 g8 g9 g10 g11 g12 g13 g14 g15 g16 g17 g18 g19 g20 g21 g22 g23 g24 g25 g26 : AV), m = n - k ∧ k ≤ n ∧ i = (k : Int) ∧ z = z0 + 2 * (k : Int) ∧ MarkToO b o z0 k E E' ∧ s = ⟨[.v (.slice sa n c), .v (.int .i64 z), g2, g3, g4, .v (.int .i64 i), g6, g7, g8, g9, g10, g11, g12, g13, g14, g15, g16, g17, g18, g19, g20, g21, g22, g23, g24, g25, g26], [], E'⟩, ⟨_, 0, _, _, E, _, _, _, _, _, _, _, _, _, _, _, _, _, _, _, _, _, _, _, _, _, _, _, _, rfl, Nat.zero_le _, rfl, by simp, .start, rfl⟩, ?_⟩
  rintro m s ⟨k, i, z, E', g2, g3, g4, g6, g7, g8, g9, g10, g11, g12, g13, g14, g15, g16, g17, g18, g19, g20, g21, g22, g23, g24, g25, g26, rfl, hk, rfl, rfl, hM, rfl⟩
  by_cases hlt : k < n
  · have hsa : sa = some ⟨b, o, none⟩ ∧ ∃ p, E.own b = some p ∧ o + n * 2 ≤ p.1 := by
      rcases hr with h | h
      · omega
      · exact h
    obtain ⟨rfl, p, hp, hsz⟩ := hsa
    have hw1 : IntKind.i64.wrap (z0 + 2 * (k : Int) + 1) = z0 + 2 * (k : Int) + 1 := wrap_in (by omega) (by omega)
    have hw2 : IntKind.i64.wrap (z0 + 2 * (k : Int) + 1 + 1) = z0 + 2 * ((k + 1 : Nat) : Int) := by rw [wrap_in (by omega) (by omega)]; omega
    have hw3 : IntKind.i64.wrap ((k : Int) + 1) = ((k + 1 : Nat) : Int) := by rw [wrap_in (by omega) (by omega)]; rfl
    have hd0 : ((⟨b, o, none⟩ : Addr).add ((k : Int).toNat * 2)).add 0 = ⟨b, o + k * 2, none⟩ := by rw [addr_add, addr_add]; simp
    have hd1 : ((⟨b, o, none⟩ : Addr).add ((k : Int).toNat * 2)).add 1 = ⟨b, o + k * 2 + 1, none⟩ := by rw [addr_add, addr_add]; simp
    have hpo : E'.own b = some p := by rw [hM.own]; exact hp
    (repeat' ((conv => whnf); (first | with_reducible apply And.intro | (with_reducible intro hh; first | (with_reducible have hx := NewRow.self hh; clear hx) | (with_reducible have hrow := Made.row hh; have hle := Made.le hh; have hmade := hh; clear hh) | (with_reducible have hrow := Fresh.rowS hh; have hle := Fresh.leS hh; have hfr := hh; clear hh) | (with_reducible have hx := Ext.self hh; clear hx) | (with_reducible have hx := SlV.self hh; clear hx) | (with_reducible have hx := Value.self hh; clear hx) | with_reducible cases hh | skip) | (with_reducible apply AllEq.mk; intro yy hq) | with_reducible apply trivial | with_reducible apply Exists.intro () | (with_reducible apply ex_side; (first | with_reducible assumption | with_reducible apply fracs1 | with_reducible apply fracs2 | with_reducible apply fracs3 | with_reducible apply spans1 | with_reducible apply spans2 | (with_reducible apply NewRow.keep; with_reducible assumption) | (with_reducible apply RowAt.keep; with_reducible assumption) | assumption | (focus ((repeat (first | with_reducible assumption | (with_reducible apply RowAt.le; rotate_left; with_reducible assumption) | (with_reducible apply RowB.le; rotate_left; with_reducible assumption))); done)))) | (with_reducible apply ex_side (a := (_, _)); (focus (with_reducible apply And.intro <;> (focus ((repeat (first | with_reducible assumption | (with_reducible apply RowAt.le; rotate_left; with_reducible assumption) | (with_reducible apply RowB.le; rotate_left; with_reducible assumption))); done))))))); (all_goals (conv => whnf)))
    (all_goals (try dsimp only [Q.eta, Sn.eta, SlV.eta] at *)); (all_goals (first | exact Side.mk trivial | with_reducible exact Side.mk rfl | exact Side.mk (fun _ _ h => h) | exact Side.mk (Made.le (by assumption)) | refine Side.mk ?_ | refine Don.mk ?_ | skip))
    all_goals first | exact ⟨by omega, by omega⟩ | (rw [hd0]; exact ⟨rfl, p, hpo, by dsimp only; omega⟩) | (rw [hd1]; exact ⟨rfl, p, hpo, by dsimp only; omega⟩) | (exfalso; have := of_decide_eq_false (by assumption : decide ((k : Int) < (n : Int)) = false); omega) | skip
    refine ⟨_, ?_, k + 1, _, _, _, _, _, _, _, _, _, _, _, _, _, _, _, _, _, _, _, _, _, _, _, _, _, _, _, rfl, hlt, hw3, ?_, ?_, rfl⟩
    · omega
    · rw [hw1]; exact hw2
    · rw [hd0, hd1, hw1]; exact hM.step
  · have hkn : k = n := by omega
    subst hkn
    (repeat' ((conv => whnf); (first | with_reducible apply And.intro | (with_reducible intro hh; first | (with_reducible have hx := NewRow.self hh; clear hx) | (with_reducible have hrow := Made.row hh; have hle := Made.le hh; have hmade := hh; clear hh) | (with_reducible have hrow := Fresh.rowS hh; have hle := Fresh.leS hh; have hfr := hh; clear hh) | (with_reducible have hx := Ext.self hh; clear hx) | (with_reducible have hx := SlV.self hh; clear hx) | (with_reducible have hx := Value.self hh; clear hx) | with_reducible cases hh | skip) | (with_reducible apply AllEq.mk; intro yy hq) | with_reducible apply trivial | with_reducible apply Exists.intro () | (with_reducible apply ex_side; (first | with_reducible assumption | with_reducible apply fracs1 | with_reducible apply fracs2 | with_reducible apply fracs3 | with_reducible apply spans1 | with_reducible apply spans2 | (with_reducible apply NewRow.keep; with_reducible assumption) | (with_reducible apply RowAt.keep; with_reducible assumption) | assumption | (focus ((repeat (first | with_reducible assumption | (with_reducible apply RowAt.le; rotate_left; with_reducible assumption) | (with_reducible apply RowB.le; rotate_left; with_reducible assumption))); done)))) | (with_reducible apply ex_side (a := (_, _)); (focus (with_reducible apply And.intro <;> (focus ((repeat (first | with_reducible assumption | (with_reducible apply RowAt.le; rotate_left; with_reducible assumption) | (with_reducible apply RowB.le; rotate_left; with_reducible assumption))); done))))))); (all_goals (conv => whnf)))
    (all_goals (try dsimp only [Q.eta, Sn.eta, SlV.eta] at *)); (all_goals (first | exact Side.mk trivial | with_reducible exact Side.mk rfl | exact Side.mk (fun _ _ h => h) | exact Side.mk (Made.le (by assumption)) | refine Side.mk ?_ | refine Don.mk ?_ | skip))
    all_goals first | (exfalso; have := of_decide_eq_true hh; omega) | skip
    exact ⟨(), rfl, Side.mk (MarkToO.done hM (hr.imp id (·.1)) (by unfold maxLen; dsimp only; omega))⟩
abbrev mkScOSp : Sp := .nf CI (fun x (b : Nat × Nat) E => RowOwnO x.1.errs b.1 b.2 E ∧ 0 ≤ x.2.1 ∧ x.2.1 ≤ 16777216) (fun x _ (_ : Unit) => .int .i64 (x.2.1 + 2 * x.1.errs.n)) (fun x b _ E E' => Side (Marked x.1.errs b.1 x.2.1 E E'))
set_option maxRecDepth 100000 in
theorem mkScO_ok : Sp.ok Tryz.prog 28 mkScOSp := by
  refine Sp.nf_ok (T := ⟨[(75, markOSp)], []⟩) follows eqok0 ⟨enters Tryz.func75 rfl rfl, markO_ok, trivial⟩ [] Tryz.func28 rfl (by kernel_rfl) _ _ _ _ fun x b E hp => ?_
  obtain ⟨⟨⟨a, b'⟩, ⟨sa, n, c⟩⟩, z, u⟩ := x
  dsimp only at hp
  (repeat' ((conv => whnf); (first | with_reducible apply And.intro | (with_reducible intro hh; first | (with_reducible have hx := NewRow.self hh; clear hx) | (with_reducible have hrow := Made.row hh; have hle := Made.le hh; have hmade := hh; clear hh) | (with_reducible have hrow := Fresh.rowS hh; have hle := Fresh.leS hh; have hfr := hh; clear hh) | (with_reducible have hx := Ext.self hh; clear hx) | (with_reducible have hx := SlV.self hh; clear hx) | (with_reducible have hx := Value.self hh; clear hx) | with_reducible cases hh | skip) | (with_reducible apply AllEq.mk; intro yy hq) | with_reducible apply trivial | with_reducible apply Exists.intro () | (with_reducible apply ex_side; (first | with_reducible assumption | with_reducible apply fracs1 | with_reducible apply fracs2 | with_reducible apply fracs3 | with_reducible apply spans1 | with_reducible apply spans2 | (with_reducible apply NewRow.keep; with_reducible assumption) | (with_reducible apply RowAt.keep; with_reducible assumption) | assumption | (focus ((repeat (first | with_reducible assumption | (with_reducible apply RowAt.le; rotate_left; with_reducible assumption) | (with_reducible apply RowB.le; rotate_left; with_reducible assumption))); done)))) | (with_reducible apply ex_side (a := (_, _)); (focus (with_reducible apply And.intro <;> (focus ((repeat (first | with_reducible assumption | (with_reducible apply RowAt.le; rotate_left; with_reducible assumption) | (with_reducible apply RowB.le; rotate_left; with_reducible assumption))); done))))))); (all_goals (conv => whnf)))
  (all_goals (try dsimp only [Q.eta, Sn.eta, SlV.eta] at *)); (all_goals (first | exact Side.mk trivial | with_reducible exact Side.mk rfl | exact Side.mk (fun _ _ h => h) | exact Side.mk (Made.le (by assumption)) | refine Side.mk ?_ | refine Don.mk ?_ | skip))
  exact ⟨(), rfl, by assumption⟩

end Go.Proofs.YtadliapkjijahaaGreatDoor
