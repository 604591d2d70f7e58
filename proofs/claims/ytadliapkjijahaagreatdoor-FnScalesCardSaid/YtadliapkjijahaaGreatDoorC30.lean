/- Rows that are made and marked: contracts of the laws' own marks, and what loops that append come to; conditions: the bounds that each names. -/
import Derived.Test.YtadliapkjijahaaGreatDoorAb
import Derived.Test.YtadliapkjijahaaGreatDoorC1
import Derived.Test.YtadliapkjijahaaGreatDoorC2
import Derived.Test.YtadliapkjijahaaGreatDoorC3
import Derived.Test.YtadliapkjijahaaGreatDoorC4
import Derived.Test.YtadliapkjijahaaGreatDoorC5
import Derived.Test.YtadliapkjijahaaGreatDoorCL
import Derived.Test.YtadliapkjijahaaGreatDoorC6
import Derived.Test.YtadliapkjijahaaGreatDoorC7
import Derived.Test.YtadliapkjijahaaGreatDoorC8
import Derived.Test.YtadliapkjijahaaGreatDoorC9
import Derived.Test.YtadliapkjijahaaGreatDoorCO
import Derived.Test.YtadliapkjijahaaGreatDoorC12
import Derived.Test.YtadliapkjijahaaGreatDoorC14
import Derived.Test.YtadliapkjijahaaGreatDoorC25
import Derived.Test.YtadliapkjijahaaGreatDoorProg
set_option linter.unusedVariables false
set_option linter.unusedSimpArgs false
namespace Go.Proofs.YtadliapkjijahaaGreatDoor
open Ab

/-! marks -/
def mrk (k : Int) (n : Nat) : List Q := (List.range n).map fun (i : Nat) => ⟨k + 2 * (i : Int), k + 2 * (i : Int) + 1⟩
theorem mrk_len (k : Int) (n : Nat) : (mrk k n).length = n := by simp [mrk]
theorem mrk_at {k : Int} {n i : Nat} (h : i < n) : (mrk k n)[i]? = some ⟨k + 2 * (i : Int), k + 2 * (i : Int) + 1⟩ := by simp [mrk, h]
/-- A row of one's own, n elements of two cells from its beginning on. -/
def RowOwn (s : SlV) (b : Nat) (E : Ext) : Prop := s.n ≤ 1048576 ∧ (s.n = 0 ∨ (s.a = some ⟨b, 0, none⟩ ∧ ∃ p, E.own b = some p ∧ s.n * 2 ≤ p.1))
structure Marked (s : SlV) (b : Nat) (k : Int) (E E' : Ext) : Prop where
  own : E'.own = E.own
  other : ∀ a, a.block ≠ b → E' a = E a
  zero : s.n = 0 → E' = E
  row : FracsAt s (mrk k s.n) E'
/-- The marks so far. -/
structure MarkTo (b : Nat) (k : Int) (i : Nat) (E E' : Ext) : Prop where
  own : E'.own = E.own
  other : ∀ a, a.block ≠ b → E' a = E a
  zero : i = 0 → E' = E
  cells : ∀ j, j < i → E' ⟨b, j * 2, none⟩ = some (.int .i64 (k + 2 * (j : Int))) ∧ E' ⟨b, j * 2 + 1, none⟩ = some (.int .i64 (k + 2 * (j : Int) + 1))
theorem MarkTo.start {b : Nat} {k : Int} {E : Ext} : MarkTo b k 0 E E := ⟨rfl, fun _ _ => rfl, fun _ => rfl, fun j h => absurd h (Nat.not_lt_zero _)⟩
theorem MarkTo.step {b : Nat} {k : Int} {i : Nat} {E E' : Ext} (h : MarkTo b k i E E') : MarkTo b k (i + 1) E ((E'.upd b (i * 2) [.int .i64 (k + 2 * (i : Int))]).upd b (i * 2 + 1) [.int .i64 (k + 2 * (i : Int) + 1)]) := by
  refine ⟨h.own, fun a ha => (upd_other ha).trans ((upd_other ha).trans (h.other a ha)), fun h0 => by omega, fun j hj => ?_⟩
  by_cases hji : j = i
  · subst hji
    refine ⟨?_, ?_⟩
    · rw [upd_out (.inl (by omega)), upd_in (by omega) (by simp), show j * 2 - j * 2 = 0 by omega]
      rfl
    · rw [upd_in (by omega) (by simp), show j * 2 + 1 - (j * 2 + 1) = 0 by omega]
      rfl
  · obtain ⟨h1, h2⟩ := h.cells j (by omega)
    refine ⟨?_, ?_⟩
    · rw [upd_out (.inl (by omega)), upd_out (.inl (by omega))]
      exact h1
    · rw [upd_out (.inl (by omega)), upd_out (.inl (by omega))]
      exact h2
theorem MarkTo.done {s : SlV} {b : Nat} {k : Int} {E E' : Ext} (h : MarkTo b k s.n E E') (ha : s.n = 0 ∨ s.a = some ⟨b, 0, none⟩) (hn : s.n ≤ maxLen) : Marked s b k E E' := by
  refine ⟨h.own, h.other, h.zero, ⟨(mrk_len _ _).symm, hn, fun h0 => ?_, fun a h1 i x hx j v hj => ?_⟩⟩
  · rcases ha with ha | ha
    · rw [ha]; simp [mrk]
    · rw [h0] at ha; cases ha
  · have hi : i < s.n := by have := (List.getElem?_eq_some_iff.1 hx).1; rwa [mrk_len] at this
    rcases ha with ha | ha
    · omega
    rw [ha] at h1
    cases h1
    rw [mrk_at hi] at hx
    cases hx
    obtain ⟨g0, g1⟩ := h.cells i hi
    rw [Go.Deep.add_add, addr_add, Nat.zero_add]
    match j, hj with
    | 0, hj => cases hj; exact g0
    | 1, hj => cases hj; exact g1
abbrev markSp : Sp := .nf SI (fun x (b : Nat) E => RowOwn x.1 b E ∧ 0 ≤ x.2.1 ∧ x.2.1 ≤ 16777216) (fun x _ (_ : Unit) => .int .i64 (x.2.1 + 2 * x.1.n)) (fun x b _ E E' => Side (Marked x.1 b x.2.1 E E'))

set_option maxHeartbeats 2000000 in
set_option maxRecDepth 100000 in
theorem mark_ok : Sp.ok Tryz.prog 75 markSp := by
  refine Sp.nf_ok (T := ⟨[], []⟩) follows eqok0 trivial [] Tryz.func75 rfl (by kernel_rfl) _ _ _ _ fun x b E hp => ?_
  obtain ⟨⟨sa, n, c⟩, z0, u⟩ := x
  obtain ⟨⟨hn, hr⟩, hz0, hz1⟩ := hp
  dsimp only at hn hr hz0 hz1
  conv => whnf
  refine ⟨fun m s => ∃ (k : Nat) (i z : Int) (E' : Ext) (g2 g3 g4 g6 g7 g8 g9 g10 g11 g12 g13 g14 g15 g16 g17 g18 g19 g20 g21 g22 g23 g24 g25 g26 : AV), m = n - k ∧ k ≤ n ∧ i = (k : Int) ∧ z = z0 + 2 * (k : Int) ∧ MarkTo b z0 k E E' ∧ s = ⟨[.v (.slice sa n c), .v (.int .i64 z), g2, g3, g4, .v (.int .i64 i), g6, g7, g8, g9, g10, g11, g12, g13, g14, g15, g16, g17, g18, g19, g20, g21, g22, g23, g24, g25, g26], [], E'⟩, ⟨_, 0, _, _, E, _, _, _, _, _, _, _, _, _, _, _, _, _, _, _, _, _, _, _, _, _, _, _, _, rfl, Nat.zero_le _, rfl, by simp, .start, rfl⟩, ?_⟩
  rintro m s ⟨k, i, z, E', g2, g3, g4, g6, g7, g8, g9, g10, g11, g12, g13, g14, g15, g16, g17, g18, g19, g20, g21, g22, g23, g24, g25, g26, rfl, hk, rfl, rfl, hM, rfl⟩
  by_cases hlt : k < n
  · have hsa : sa = some ⟨b, 0, none⟩ ∧ ∃ p, E.own b = some p ∧ n * 2 ≤ p.1 := by
      rcases hr with h | h
      · omega
      · exact h
    obtain ⟨rfl, p, hp, hsz⟩ := hsa
    have hw1 : IntKind.i64.wrap (z0 + 2 * (k : Int) + 1) = z0 + 2 * (k : Int) + 1 := wrap_in (by omega) (by omega)
    have hw2 : IntKind.i64.wrap (z0 + 2 * (k : Int) + 1 + 1) = z0 + 2 * ((k + 1 : Nat) : Int) := by rw [wrap_in (by omega) (by omega)]; omega
    have hw3 : IntKind.i64.wrap ((k : Int) + 1) = ((k + 1 : Nat) : Int) := by rw [wrap_in (by omega) (by omega)]; rfl
    have hd0 : ((⟨b, 0, none⟩ : Addr).add ((k : Int).toNat * 2)).add 0 = ⟨b, k * 2, none⟩ := by rw [addr_add, addr_add]; simp
    have hd1 : ((⟨b, 0, none⟩ : Addr).add ((k : Int).toNat * 2)).add 1 = ⟨b, k * 2 + 1, none⟩ := by rw [addr_add, addr_add]; simp
    have hpo : E'.own b = some p := by rw [hM.own]; exact hp
    (repeat' ((conv => whnf); (first | with_reducible apply And.intro | (with_reducible intro hh; first | (with_reducible have hx := NewRow.self hh; clear hx) | (with_reducible have hrow := Made.row hh; have hle := Made.le hh; have hmade := hh; clear hh) | (with_reducible have hrow := Fresh.rowS hh; have hle := Fresh.leS hh; have hfr := hh; clear hh) | (with_reducible have hx := Ext.self hh; clear hx) | (with_reducible have hx := SlV.self hh; clear hx) | (with_reducible have hx := Value.self hh; clear hx) | with_reducible cases hh | skip) | (with_reducible apply AllEq.mk; intro yy hq) | with_reducible apply trivial | with_reducible apply Exists.intro () | (with_reducible apply ex_side; (first | with_reducible assumption | with_reducible apply fracs1 | with_reducible apply fracs2 | with_reducible apply fracs3 | with_reducible apply spans1 | with_reducible apply spans2 | (with_reducible apply NewRow.keep; with_reducible assumption) | (with_reducible apply RowAt.keep; with_reducible assumption) | assumption | (focus ((repeat (first | with_reducible assumption | (with_reducible apply RowAt.le; rotate_left; with_reducible assumption) | (with_reducible apply RowB.le; rotate_left; with_reducible assumption))); done)))) | (with_reducible apply ex_side (a := (_, _)); (focus (with_reducible apply And.intro <;> (focus ((repeat (first | with_reducible assumption | (with_reducible apply RowAt.le; rotate_left; with_reducible assumption) | (with_reducible apply RowB.le; rotate_left; with_reducible assumption))); done))))))); (all_goals (conv => whnf)))
    (all_goals (try dsimp only [Q.eta, Sn.eta, SlV.eta] at *)); (all_goals (first | exact Side.mk trivial | with_reducible exact Side.mk rfl | exact Side.mk (fun _ _ h => h) | exact Side.mk (Made.le (by assumption)) | refine Side.mk ?_ | refine Don.mk ?_ | skip))
    all_goals first | exact ⟨by omega, by omega⟩ | (rw [hd0]; exact ⟨rfl, p, hpo, by dsimp only; omega⟩) | (rw [hd1]; exact ⟨rfl, p, hpo, by dsimp only; omega⟩) | (exfalso; have := of_decide_eq_false (by assumption : decide ((k : Int) < (n : Int)) = false); omega) | skip
    refine ⟨_, ?_, k + 1, _, _, _, _, _, _, _, _, _, _, _, _, _, _, _, _, _, _, _, _, _, _, _, _, _, _, _, rfl, hlt, hw3, ?_, ?_, rfl⟩
    · omega
    · rw [hw1]; exact hw2
    · rw [hd0, hd1, hw1]; exact hM.step
  · have hkn : k = n := by omega
    subst hkn
    (repeat' ((conv => whnf); (first | with_reducible apply And.intro | (with_reducible intro hh; first | (with_reducible have hx := NewRow.self hh; clear hx) | (with_reducible have hrow := Made.row hh; have hle := Made.le hh; have hmade := hh; clear hh) | (with_reducible have hrow := Fresh.rowS hh; have hle := Fresh.leS hh; have hfr := hh; clear hh) | (with_reducible have hx := Ext.self hh; clear hx) | (with_reducible have hx := SlV.self hh; clear hx) | (with_reducible have hx := Value.self hh; clear hx) | with_reducible cases hh | skip) | (with_reducible apply AllEq.mk; intro yy hq) | with_reducible apply trivial | with_reducible apply Exists.intro () | (with_reducible apply ex_side; (first | with_reducible assumption | with_reducible apply fracs1 | with_reducible apply fracs2 | with_reducible apply fracs3 | with_reducible apply spans1 | with_reducible apply spans2 | (with_reducible apply NewRow.keep; with_reducible assumption) | (with_reducible apply RowAt.keep; with_reducible assumption) | assumption | (focus ((repeat (first | with_reducible assumption | (with_reducible apply RowAt.le; rotate_left; with_reducible assumption) | (with_reducible apply RowB.le; rotate_left; with_reducible assumption))); done)))) | (with_reducible apply ex_side (a := (_, _)); (focus (with_reducible apply And.intro <;> (focus ((repeat (first | with_reducible assumption | (with_reducible apply RowAt.le; rotate_left; with_reducible assumption) | (with_reducible apply RowB.le; rotate_left; with_reducible assumption))); done))))))); (all_goals (conv => whnf)))
    (all_goals (try dsimp only [Q.eta, Sn.eta, SlV.eta] at *)); (all_goals (first | exact Side.mk trivial | with_reducible exact Side.mk rfl | exact Side.mk (fun _ _ h => h) | exact Side.mk (Made.le (by assumption)) | refine Side.mk ?_ | refine Don.mk ?_ | skip))
    all_goals first | (exfalso; have := of_decide_eq_true hh; omega) | skip
    exact ⟨(), rfl, Side.mk (MarkTo.done hM (hr.imp id (·.1)) (by unfold maxLen; dsimp only; omega))⟩
abbrev mkScSp : Sp := .nf CI (fun x (b : Nat) E => RowOwn x.1.errs b E ∧ 0 ≤ x.2.1 ∧ x.2.1 ≤ 16777216) (fun x _ (_ : Unit) => .int .i64 (x.2.1 + 2 * x.1.errs.n)) (fun x b _ E E' => Side (Marked x.1.errs b x.2.1 E E'))
set_option maxRecDepth 100000 in
theorem mkSc_ok : Sp.ok Tryz.prog 28 mkScSp := by
  refine Sp.nf_ok (T := ⟨[(75, markSp)], []⟩) follows eqok0 ⟨enters Tryz.func75 rfl rfl, mark_ok, trivial⟩ [] Tryz.func28 rfl (by kernel_rfl) _ _ _ _ fun x b E hp => ?_
  obtain ⟨⟨⟨a, b'⟩, ⟨sa, n, c⟩⟩, z, u⟩ := x
  dsimp only at hp
  (repeat' ((conv => whnf); (first | with_reducible apply And.intro | (with_reducible intro hh; first | (with_reducible have hx := NewRow.self hh; clear hx) | (with_reducible have hrow := Made.row hh; have hle := Made.le hh; have hmade := hh; clear hh) | (with_reducible have hrow := Fresh.rowS hh; have hle := Fresh.leS hh; have hfr := hh; clear hh) | (with_reducible have hx := Ext.self hh; clear hx) | (with_reducible have hx := SlV.self hh; clear hx) | (with_reducible have hx := Value.self hh; clear hx) | with_reducible cases hh | skip) | (with_reducible apply AllEq.mk; intro yy hq) | with_reducible apply trivial | with_reducible apply Exists.intro () | (with_reducible apply ex_side; (first | with_reducible assumption | with_reducible apply fracs1 | with_reducible apply fracs2 | with_reducible apply fracs3 | with_reducible apply spans1 | with_reducible apply spans2 | (with_reducible apply NewRow.keep; with_reducible assumption) | (with_reducible apply RowAt.keep; with_reducible assumption) | assumption | (focus ((repeat (first | with_reducible assumption | (with_reducible apply RowAt.le; rotate_left; with_reducible assumption) | (with_reducible apply RowB.le; rotate_left; with_reducible assumption))); done)))) | (with_reducible apply ex_side (a := (_, _)); (focus (with_reducible apply And.intro <;> (focus ((repeat (first | with_reducible assumption | (with_reducible apply RowAt.le; rotate_left; with_reducible assumption) | (with_reducible apply RowB.le; rotate_left; with_reducible assumption))); done))))))); (all_goals (conv => whnf)))
  (all_goals (try dsimp only [Q.eta, Sn.eta, SlV.eta] at *)); (all_goals (first | exact Side.mk trivial | with_reducible exact Side.mk rfl | exact Side.mk (fun _ _ h => h) | exact Side.mk (Made.le (by assumption)) | refine Side.mk ?_ | refine Don.mk ?_ | skip))
  exact ⟨(), rfl, by assumption⟩
/-! what is held -/
abbrev heldSp : Sp := .rf SI (fun x (_ : Unit) E => FracsAt x.1 (mrk x.2.1 x.1.n) E ∧ x.1.n ≤ 1048576 ∧ 0 ≤ x.2.1 ∧ x.2.1 ≤ 16777216) (fun x _ => .int .i64 (x.2.1 + 2 * x.1.n))

set_option maxHeartbeats 2000000 in
set_option maxRecDepth 100000 in
theorem held_ok : Sp.ok Tryz.prog 76 heldSp := by
  refine Sp.rf_ok (T := ⟨[], []⟩) follows eqok0 trivial [] Tryz.func76 rfl (by kernel_rfl) _ _ _ fun x l E hp => ?_
  obtain ⟨⟨sa, n, c⟩, z0, u⟩ := x
  obtain ⟨hr, hn, hz0, hz1⟩ := hp
  dsimp only at hn hr hz0 hz1
  conv => whnf
  refine ⟨fun m s => ∃ (k : Nat) (i z : Int) (g2 g3 g4 g6 g7 g8 g9 g10 g11 g12 g13 g14 g15 g16 g17 g18 g19 g20 g21 g22 g23 g24 g25 g26 g27 g28 g29 g30 : AV), m = n - k ∧ k ≤ n ∧ i = (k : Int) ∧ z = z0 + 2 * (k : Int) ∧ s = ⟨[.v (.slice sa n c), .v (.int .i64 z), g2, g3, g4, .v (.int .i64 i), g6, g7, g8, g9, g10, g11, g12, g13, g14, g15, g16, g17, g18, g19, g20, g21, g22, g23, g24, g25, g26, g27, g28, g29, g30], [], E⟩, ⟨_, 0, _, _, _, _, _, _, _, _, _, _, _, _, _, _, _, _, _, _, _, _, _, _, _, _, _, _, _, _, _, _, rfl, Nat.zero_le _, rfl, by simp, rfl⟩, ?_⟩
  rintro m s ⟨k, i, z, g2, g3, g4, g6, g7, g8, g9, g10, g11, g12, g13, g14, g15, g16, g17, g18, g19, g20, g21, g22, g23, g24, g25, g26, g27, g28, g29, g30, rfl, hk, rfl, rfl, rfl⟩
  by_cases hlt : k < n
  · have hw1 : IntKind.i64.wrap (z0 + 2 * (k : Int) + 1) = z0 + 2 * (k : Int) + 1 := wrap_in (by omega) (by omega)
    have hw2 : IntKind.i64.wrap (z0 + 2 * (k : Int) + 1 + 1) = z0 + 2 * ((k + 1 : Nat) : Int) := by rw [wrap_in (by omega) (by omega)]; omega
    have hw3 : IntKind.i64.wrap ((k : Int) + 1) = ((k + 1 : Nat) : Int) := by rw [wrap_in (by omega) (by omega)]; rfl
    cases sa with
    | none =>
      have := hr.2.2.1 rfl
      have h2 := mrk_len z0 n
      rw [this] at h2
      simp at h2
      omega
    | some a =>
      have h0 : E ((a.add ((k : Int).toNat * 2)).add 0) = some (.int .i64 (z0 + 2 * (k : Int))) := (FracsAt.at hr (a := a) rfl (mrk_at hlt)).1
      have h1 : E ((a.add ((k : Int).toNat * 2)).add 1) = some (.int .i64 (z0 + 2 * (k : Int) + 1)) := (FracsAt.at hr (a := a) rfl (mrk_at hlt)).2
      (repeat' ((conv => whnf); (first | with_reducible apply And.intro | (with_reducible intro hh; first | (with_reducible have hx := NewRow.self hh; clear hx) | (with_reducible have hrow := Made.row hh; have hle := Made.le hh; have hmade := hh; clear hh) | (with_reducible have hrow := Fresh.rowS hh; have hle := Fresh.leS hh; have hfr := hh; clear hh) | (with_reducible have hx := Ext.self hh; clear hx) | (with_reducible have hx := SlV.self hh; clear hx) | (with_reducible have hx := Value.self hh; clear hx) | with_reducible cases hh | skip) | (with_reducible apply AllEq.mk; intro yy hq) | with_reducible apply trivial | with_reducible apply Exists.intro () | (with_reducible apply ex_side; (first | with_reducible assumption | with_reducible apply fracs1 | with_reducible apply fracs2 | with_reducible apply fracs3 | with_reducible apply spans1 | with_reducible apply spans2 | (with_reducible apply NewRow.keep; with_reducible assumption) | (with_reducible apply RowAt.keep; with_reducible assumption) | assumption | (focus ((repeat (first | with_reducible assumption | (with_reducible apply RowAt.le; rotate_left; with_reducible assumption) | (with_reducible apply RowB.le; rotate_left; with_reducible assumption))); done)))) | (with_reducible apply ex_side (a := (_, _)); (focus (with_reducible apply And.intro <;> (focus ((repeat (first | with_reducible assumption | (with_reducible apply RowAt.le; rotate_left; with_reducible assumption) | (with_reducible apply RowB.le; rotate_left; with_reducible assumption))); done))))))); (all_goals (conv => whnf)))
      (all_goals (try dsimp only [Q.eta, Sn.eta, SlV.eta] at *)); (all_goals (first | exact Side.mk trivial | with_reducible exact Side.mk rfl | exact Side.mk (fun _ _ h => h) | exact Side.mk (Made.le (by assumption)) | refine Side.mk ?_ | refine Don.mk ?_ | skip))
      all_goals first | exact ⟨by omega, by omega⟩ | (exfalso; have := of_decide_eq_false (by assumption : decide ((k : Int) < (n : Int)) = false); omega) | skip
      all_goals try (exfalso; have h9 := (by assumption : (z0 + 2 * (k : Int) != z0 + 2 * (k : Int)) = true); simp at h9; done)
      all_goals try (exfalso; rw [hw1] at hh; simp at hh; done)
      refine ⟨_, ?_, k + 1, _, _, _, _, _, _, _, _, _, _, _, _, _, _, _, _, _, _, _, _, _, _, _, _, _, _, _, _, _, _, rfl, hlt, hw3, ?_, rfl⟩
      · omega
      · rw [hw1]; exact hw2
  · have hkn : k = n := by omega
    subst hkn
    (repeat' ((conv => whnf); (first | with_reducible apply And.intro | (with_reducible intro hh; first | (with_reducible have hx := NewRow.self hh; clear hx) | (with_reducible have hrow := Made.row hh; have hle := Made.le hh; have hmade := hh; clear hh) | (with_reducible have hrow := Fresh.rowS hh; have hle := Fresh.leS hh; have hfr := hh; clear hh) | (with_reducible have hx := Ext.self hh; clear hx) | (with_reducible have hx := SlV.self hh; clear hx) | (with_reducible have hx := Value.self hh; clear hx) | with_reducible cases hh | skip) | (with_reducible apply AllEq.mk; intro yy hq) | with_reducible apply trivial | with_reducible apply Exists.intro () | (with_reducible apply ex_side; (first | with_reducible assumption | with_reducible apply fracs1 | with_reducible apply fracs2 | with_reducible apply fracs3 | with_reducible apply spans1 | with_reducible apply spans2 | (with_reducible apply NewRow.keep; with_reducible assumption) | (with_reducible apply RowAt.keep; with_reducible assumption) | assumption | (focus ((repeat (first | with_reducible assumption | (with_reducible apply RowAt.le; rotate_left; with_reducible assumption) | (with_reducible apply RowB.le; rotate_left; with_reducible assumption))); done)))) | (with_reducible apply ex_side (a := (_, _)); (focus (with_reducible apply And.intro <;> (focus ((repeat (first | with_reducible assumption | (with_reducible apply RowAt.le; rotate_left; with_reducible assumption) | (with_reducible apply RowB.le; rotate_left; with_reducible assumption))); done))))))); (all_goals (conv => whnf)))
    (all_goals (try dsimp only [Q.eta, Sn.eta, SlV.eta] at *)); (all_goals (first | exact Side.mk trivial | with_reducible exact Side.mk rfl | exact Side.mk (fun _ _ h => h) | exact Side.mk (Made.le (by assumption)) | refine Side.mk ?_ | refine Don.mk ?_ | skip))
    all_goals first | (exfalso; have := of_decide_eq_true hh; omega) | rfl
abbrev hdScSp : Sp := .rf CI (fun x (_ : Unit) E => FracsAt x.1.errs (mrk x.2.1 x.1.errs.n) E ∧ x.1.errs.n ≤ 1048576 ∧ 0 ≤ x.2.1 ∧ x.2.1 ≤ 16777216) (fun x _ => .int .i64 (x.2.1 + 2 * x.1.errs.n))
set_option maxRecDepth 100000 in
theorem hdSc_ok : Sp.ok Tryz.prog 29 hdScSp := by
  refine Sp.rf_ok (T := ⟨[(76, heldSp)], []⟩) follows eqok0 ⟨enters Tryz.func76 rfl rfl, held_ok, trivial⟩ [] Tryz.func29 rfl (by kernel_rfl) _ _ _ fun x l E hp => ?_
  obtain ⟨⟨⟨a, b⟩, ⟨sa, n, c⟩⟩, z, u⟩ := x
  dsimp only at hp
  (repeat' ((conv => whnf); (first | with_reducible apply And.intro | (with_reducible intro hh; first | (with_reducible have hx := NewRow.self hh; clear hx) | (with_reducible have hrow := Made.row hh; have hle := Made.le hh; have hmade := hh; clear hh) | (with_reducible have hrow := Fresh.rowS hh; have hle := Fresh.leS hh; have hfr := hh; clear hh) | (with_reducible have hx := Ext.self hh; clear hx) | (with_reducible have hx := SlV.self hh; clear hx) | (with_reducible have hx := Value.self hh; clear hx) | with_reducible cases hh | skip) | (with_reducible apply AllEq.mk; intro yy hq) | with_reducible apply trivial | with_reducible apply Exists.intro () | (with_reducible apply ex_side; (first | with_reducible assumption | with_reducible apply fracs1 | with_reducible apply fracs2 | with_reducible apply fracs3 | with_reducible apply spans1 | with_reducible apply spans2 | (with_reducible apply NewRow.keep; with_reducible assumption) | (with_reducible apply RowAt.keep; with_reducible assumption) | assumption | (focus ((repeat (first | with_reducible assumption | (with_reducible apply RowAt.le; rotate_left; with_reducible assumption) | (with_reducible apply RowB.le; rotate_left; with_reducible assumption))); done)))) | (with_reducible apply ex_side (a := (_, _)); (focus (with_reducible apply And.intro <;> (focus ((repeat (first | with_reducible assumption | (with_reducible apply RowAt.le; rotate_left; with_reducible assumption) | (with_reducible apply RowB.le; rotate_left; with_reducible assumption))); done))))))); (all_goals (conv => whnf)))
  (all_goals (try dsimp only [Q.eta, Sn.eta, SlV.eta] at *)); (all_goals (first | exact Side.mk trivial | with_reducible exact Side.mk rfl | exact Side.mk (fun _ _ h => h) | exact Side.mk (Made.le (by assumption)) | refine Side.mk ?_ | refine Don.mk ?_ | skip))
  all_goals first | exact hp | (exfalso; have := of_decide_eq_true hh; omega) | rfl
/-! rows that loops make -/
structure Grow {α : Type} (e : TypeId) (c : Nat) (en : α → List Value) (E0 : Ext) (o : SlV) (l : List α) (E' : Ext) : Prop where
  own : OwnRow E' e c o (l.flatMap en)
  le : Ext.le E0 E'
  keep : ∀ b p, E0.own b = some p → E'.own b = some p ∧ ∀ a, a.block = b → E' a = E0 a
  fresh : ∀ a, o.a = some a → E0.own a.block = none ∧ ∀ a' v, E0 a' = some v → a'.block ≠ a.block
theorem Grow.nil {α : Type} {e : TypeId} {c : Nat} {en : α → List Value} {E : Ext} : Grow e c en E ⟨none, 0, 0⟩ [] E :=
  ⟨⟨by simp, Nat.le_refl _, Nat.zero_le _, .inl ⟨rfl, rfl, rfl⟩⟩, fun _ _ h => h, fun b p h => ⟨h, fun _ _ => rfl⟩, fun a h => by cases h⟩
theorem Grow.push {α : Type} {e e' : TypeId} {c : Nat} {en : α → List Value} {E0 E' E2 : Ext} {o o' : SlV} {l : List α} {x : α} (h : Grow e c en E0 o l E') (r : NewRow E' (en x) e') {c' : Nat} (hp : AppPost r.to e c o ⟨some ⟨r.b, 0, none⟩, 1, c'⟩ (l.flatMap en, en x) o' E2) : Grow e c en E0 o' (l ++ [x]) E2 := by
  obtain ⟨h1, h2, h3, h4⟩ := h
  refine ⟨by rw [flat_push]; exact hp.own, Ext.le_trans h2 (Ext.le_trans r.le hp.le), fun b p hb => ?_, fun a ha => ?_⟩
  · obtain ⟨k1, k2⟩ := h3 b p hb
    have hne := new_ne r k1
    have k3 : r.to.own b = some p := by rw [new_own' r hne]; exact k1
    obtain ⟨k4, k5⟩ := hp.other b p (fun a ha e => by have := (h4 a ha).1; rw [e, hb] at this; cases this) k3
    exact ⟨k4, fun a ha => by rw [k5 a ha, new_at r (by rw [ha]; exact hne), k2 a ha]⟩
  · rcases hp.fresh a ha with k1 | ⟨k1, k2⟩
    · exact h4 a k1
    · refine ⟨?_, fun a' v hv => k1 a' v (r.le _ _ (h2 _ _ hv))⟩
      cases ho : E0.own a.block with
      | none => rfl
      | some p =>
        have k3 := (h3 _ p ho).1
        have hne := new_ne r k3
        rw [new_own' r hne, k3] at k2
        cases k2
/-- A row that the call makes, and what it leaves. -/
structure Fresh {α : Type} (e : TypeId) (c : Nat) (en : α → List Value) (y : SlV) (l : List α) (E E' : Ext) : Prop where
  row : RowAt en c y l E'
  le : Ext.le E E'
  keep : ∀ b p, E.own b = some p → E'.own b = some p ∧ ∀ a, a.block = b → E' a = E a
  own : (y.n = 0 ∧ y.a = none) ∨ ∃ b, y.a = some ⟨b, 0, none⟩ ∧ (∃ p, E'.own b = some p ∧ y.n * c ≤ p.1) ∧ E.own b = none ∧ ∀ a v, E a = some v → a.block ≠ b
theorem Fresh.rowS {α : Type} {e : TypeId} {c : Nat} {en : α → List Value} {y : SlV} {l : List α} {E E' : Ext} (h : Side (Fresh e c en y l E E')) : RowAt en c y l E' := h.out.row
theorem Fresh.leS {α : Type} {e : TypeId} {c : Nat} {en : α → List Value} {y : SlV} {l : List α} {E E' : Ext} (h : Side (Fresh e c en y l E E')) : Ext.le E E' := h.out.le
/-- What came first changes nothing of it. -/
theorem Fresh.before {α : Type} {e : TypeId} {c : Nat} {en : α → List Value} {y : SlV} {l : List α} {E E1 E' : Ext} (h : Fresh e c en y l E1 E') (hle : Ext.le E E1) (hk : ∀ b p, E.own b = some p → E1.own b = some p ∧ ∀ a, a.block = b → E1 a = E a) : Fresh e c en y l E E' := by
  refine ⟨h.row, Ext.le_trans hle h.le, fun b p hb => ?_, h.own.imp id fun ⟨b, h1, h2, h3, h4⟩ => ⟨b, h1, h2, ?_, fun a v ha => h4 a v (hle _ _ ha)⟩⟩
  · obtain ⟨k1, k2⟩ := hk b p hb
    obtain ⟨k3, k4⟩ := h.keep b p k1
    exact ⟨k3, fun a ha => by rw [k4 a ha, k2 a ha]⟩
  · cases ho : E.own b with
    | none => rfl
    | some p => rw [(hk b p ho).1] at h3; cases h3
theorem Fresh.beforeNew {α : Type} {e e' : TypeId} {c : Nat} {en : α → List Value} {y : SlV} {l : List α} {E E' : Ext} {cs : List Value} (r : NewRow E cs e') (h : Fresh e c en y l r.to E') : Fresh e c en y l E E' :=
  h.before r.le fun b p hb => ⟨by rw [new_own' r (new_ne r hb)]; exact hb, fun a ha => new_at r (by rw [ha]; exact new_ne r hb)⟩
theorem Grow.done {e : TypeId} {E0 E' : Ext} {o : SlV} {l : List Q} (h : Grow e 2 Q.cells E0 o l E') : Fresh e 2 Q.cells o l E0 E' := by
  refine ⟨OwnRow.rowAt (en := Q.cells) (c := 2) (fun _ => rfl) (by decide) h.own, h.le, h.keep, ?_⟩
  obtain ⟨h1, h2, h3, h4⟩ := h.own
  rcases h4 with ⟨k1, k2, _⟩ | ⟨b, hb, ho, _⟩
  · exact .inl ⟨k2, k1⟩
  · obtain ⟨g1, g2⟩ := h.fresh _ hb
    exact .inr ⟨b, hb, ⟨_, ho, Nat.mul_le_mul_right _ h2⟩, g1, g2⟩
theorem Fresh.noRow {α : Type} {e : TypeId} {c : Nat} {en : α → List Value} {E E' : Ext} (hle : Ext.le E E') (hk : ∀ b p, E.own b = some p → E'.own b = some p ∧ ∀ a, a.block = b → E' a = E a) : Fresh e c en ⟨none, 0, 0⟩ [] E E' :=
  ⟨⟨rfl, Nat.zero_le _, fun _ => rfl, fun a h => by cases h⟩, hle, hk, .inl ⟨rfl, rfl⟩⟩
theorem Fresh.nilRow {α : Type} {e : TypeId} {c : Nat} {en : α → List Value} {E : Ext} : Fresh e c en ⟨none, 0, 0⟩ [] E E :=
  ⟨⟨rfl, Nat.zero_le _, fun _ => rfl, fun a h => by cases h⟩, fun _ _ h => h, fun b p h => ⟨h, fun _ _ => rfl⟩, .inl ⟨rfl, rfl⟩⟩
/-! results one behind the other -/
def accO : List Q → List (Option Q) → Option (List Q)
  | a, [] => some a
  | a, o :: r => o.bind fun x => accO (a ++ [x]) r
def accT : List Q → Bool → List (Option Q) → List Q × Bool
  | a, f, [] => (a, f)
  | a, f, o :: r => accT (a ++ [tolO o]) (f || o.isNone) r
theorem accT_bad : ∀ (l : List (Option Q)) (a : List Q), (accT a true l).2 = true
  | [], _ => rfl
  | o :: r, a => by rw [accT, Bool.true_or]; exact accT_bad r _
theorem accT_O : ∀ (l : List (Option Q)) (a : List Q) (f : Bool), (accT a f l).2 = (f || (accO a l).isNone) ∧ ∀ c, accO a l = some c → (accT a f l).1 = c
  | [], a, f => ⟨by simp [accT, accO], fun c h => by simpa [accT, accO] using h⟩
  | o :: r, a, f => by
    rw [accT, accO]
    cases o with
    | none =>
      refine ⟨?_, fun c hc => by cases hc⟩
      rw [Option.isNone_none, Bool.or_true, accT_bad]
      simp
    | some d =>
      rw [tolO_some, Option.isNone_some, Bool.or_false, Option.bind_some]
      exact accT_O r _ f
theorem accT_ok : ∀ (l : List (Option Q)) (a : List Q) (f : Bool), (∀ o ∈ l, okQ (tolO o) = true) → allOk a = true → allOk (accT a f l).1 = true
  | [], _, _, _, h => h
  | o :: r, a, f, ho, h => by
    rw [accT]
    refine accT_ok r _ _ (fun x hx => ho x (List.mem_cons_of_mem _ hx)) ?_
    unfold allOk at *
    rw [List.all_append, h]
    simp [ho o List.mem_cons_self]
theorem accT_len : ∀ (l : List (Option Q)) (a : List Q) (f : Bool), (accT a f l).1.length = a.length + l.length
  | [], _, _ => by simp [accT]
  | o :: r, a, f => by rw [accT, accT_len r]; simp; omega
theorem accO_len : ∀ (l : List (Option Q)) (a c : List Q), accO a l = some c → c.length = a.length + l.length
  | [], _, _, h => by rw [accO] at h; cases h; simp
  | o :: r, a, c, h => by
    rw [accO] at h
    cases o with
    | none => cases h
    | some d => rw [Option.bind_some] at h; rw [accO_len r _ _ h]; simp; omega

/-- A row that was made is one's own to mark. -/
theorem Fresh.rowOwn {α : Type} {e : TypeId} {en : α → List Value} {y : SlV} {l : List α} {E E' : Ext} (h : Fresh e 2 en y l E E') (hn : l.length ≤ 1048576) : ∃ b, RowOwn y b E' ∧ (y.n = 0 ∨ E.own b = none ∧ ∀ a v, E a = some v → a.block ≠ b) := by
  have hl : y.n ≤ 1048576 := by rw [h.row.1]; exact hn
  rcases h.own with ⟨h1, _⟩ | ⟨b, h1, h2, h3, h4⟩
  · exact ⟨0, ⟨hl, .inl h1⟩, .inl h1⟩
  · exact ⟨b, ⟨hl, .inr ⟨h1, h2⟩⟩, .inr ⟨h3, h4⟩⟩
/-- What was there ahead of it is there behind the marks. -/
theorem Marked.le {s : SlV} {b : Nat} {k : Int} {E0 E E' : Ext} (h : Marked s b k E E') (hle : Ext.le E0 E) (hb : s.n = 0 ∨ E0.own b = none ∧ ∀ a v, E0 a = some v → a.block ≠ b) : Ext.le E0 E' := by
  rcases hb with hb | ⟨_, hb⟩
  · rw [h.zero hb]; exact hle
  · exact fun a v ha => by rw [h.other a (hb a v ha)]; exact hle a v ha
theorem addr_blk (a : Addr) (n : Nat) : (a.add n).block = a.block := by unfold Addr.add; split <;> rfl
/-- A row that was made is one's own to mark. -/
theorem Made.rowOwn {α : Type} {e : TypeId} {en : α → List Value} {y : SlV} {l : List α} {E E' : Ext} (h : Made e 2 en y l E E') (hn : l.length ≤ 1048576) : ∃ b, RowOwn y b E' ∧ E.own b = none ∧ (∀ a v, E a = some v → a.block ≠ b) ∧ ∃ p, E'.own b = some p := by
  obtain ⟨b, h1, h2, h3, h4⟩ := h.own
  exact ⟨b, ⟨by rw [h.row.1]; exact hn, .inr ⟨h1, _, h2, Nat.mul_le_mul_right _ h.cap⟩⟩, h3, h4, _, h2⟩
/-- What is one's own stays so. -/
theorem RowOwn.keep {s : SlV} {b : Nat} {E E' : Ext} (h : RowOwn s b E) (hk : ∀ b p, E.own b = some p → E'.own b = some p) : RowOwn s b E' :=
  ⟨h.1, h.2.imp id fun ⟨h1, p, h2, h3⟩ => ⟨h1, p, hk _ _ h2, h3⟩⟩
/-- A row that is made behind another lies elsewhere. -/
theorem Fresh.apart {α : Type} {e : TypeId} {c : Nat} {en : α → List Value} {y : SlV} {l : List α} {E E' : Ext} {b : Nat} {p : Nat × TypeId} (h : Fresh e c en y l E E') (hb : E.own b = some p) : ∀ a, y.a = some a → a.block ≠ b := by
  intro a ha
  rcases h.own with ⟨_, h1⟩ | ⟨b', h1, _, h3, _⟩
  · rw [h1] at ha; cases ha
  · rw [h1] at ha
    cases ha
    intro h
    dsimp only at h
    rw [h, hb] at h3
    cases h3
/-- What lies elsewhere stays. -/
theorem Marked.elsewhere {s : SlV} {b : Nat} {k : Int} {E E' : Ext} {α : Type} {en : α → List Value} {c : Nat} {y : SlV} {l : List α} (h : Marked s b k E E') (r : RowAt en c y l E) (ha : ∀ a, y.a = some a → a.block ≠ b) : RowAt en c y l E' :=
  ⟨r.1, r.2.1, r.2.2.1, fun a h1 i x hx j v hj => by
    rw [h.other _ (by rw [addr_blk, addr_blk]; exact ha a h1)]
    exact r.2.2.2 a h1 i x hx j v hj⟩

end Go.Proofs.YtadliapkjijahaaGreatDoor
