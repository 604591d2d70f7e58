/- Contracts of the functions that draw numbers from bytes: what is drawn lies within its bounds; conditions: the bounds that each names. -/
import Derived.Test.YtadliapkjijahaaGreatDoorAb
import Derived.Test.YtadliapkjijahaaGreatDoorC1
import Derived.Test.YtadliapkjijahaaGreatDoorC2
import Derived.Test.YtadliapkjijahaaGreatDoorC3
import Derived.Test.YtadliapkjijahaaGreatDoorC4
import Derived.Test.YtadliapkjijahaaGreatDoorC10
import Derived.Test.YtadliapkjijahaaGreatDoorC12
import Derived.Test.YtadliapkjijahaaGreatDoorC14
import Derived.Test.YtadliapkjijahaaGreatDoorC24
import Derived.Test.YtadliapkjijahaaGreatDoorC25
import Derived.Test.YtadliapkjijahaaGreatDoorC30
import Derived.Test.YtadliapkjijahaaGreatDoorCK
import Derived.Test.YtadliapkjijahaaGreatDoorCG
import Derived.Test.YtadliapkjijahaaGreatDoorCN
import Derived.Test.YtadliapkjijahaaGreatDoorProg
set_option linter.unusedVariables false
set_option linter.unusedSimpArgs false
namespace Go.Proofs.YtadliapkjijahaaGreatDoor
open Ab

/-- A source of draws. -/
structure Src where
  sl : SlV
  at_ : Nat
  seed : Int
structure SrcAt (b : Nat) (bs : List Int) (s : Src) (E : Ext) : Prop where
  own : E.own b = some (3, 106)
  c0 : E ⟨b, 0, none⟩ = some (.slice s.sl.a s.sl.n s.sl.c)
  c1 : E ⟨b, 1, none⟩ = some (.int .i64 s.at_)
  c2 : E ⟨b, 2, none⟩ = some (.int .u64 s.seed)
  row : IntsAt .u8 s.sl bs E
  apart : bs ≠ [] → ∀ a, s.sl.a = some a → a.block ≠ b
  bytes : ∀ x ∈ bs, 0 ≤ x ∧ x ≤ 255
/-- What drawing leaves. -/
structure SrcTo (b : Nat) (bs : List Int) (s : Src) (E E' : Ext) : Prop where
  src : ∃ d, SrcAt b bs ⟨s.sl, s.at_ + 1, d⟩ E'
  own : E'.own = E.own
  rest : ∀ a, a.block ≠ b → E' a = E a
abbrev PA : ArgL (Addr × Unit) := .cons Arg.ptr .nil
theorem u64_small {x : Int} (h : 0 ≤ x) (k : x ≤ 255) : IntKind.u64.wrap x = x := by
  simp [IntKind.wrap, IntKind.signed, IntKind.bits]
  omega
theorem and_bound (X : BitVec IntKind.u64.bits) : 0 ≤ IntKind.i64.wrap (IntKind.u64.wrap (X &&& BitVec.ofInt IntKind.u64.bits 255).toNat) ∧ IntKind.i64.wrap (IntKind.u64.wrap (X &&& BitVec.ofInt IntKind.u64.bits 255).toNat) ≤ 255 := by
  have h : (X &&& BitVec.ofInt IntKind.u64.bits 255).toNat ≤ 255 := by
    rw [BitVec.toNat_and]
    exact Nat.le_trans Nat.and_le_right (by decide)
  rw [u64_small (by omega) (by omega), wrap_in (by omega) (by omega)]
  omega
theorem add_block (a : Addr) (i j : Nat) : ((a.add i).add j).block = a.block := by rw [addr_blk, addr_blk]
theorem src_to {b : Nat} {bs : List Int} {sl : SlV} {k : Nat} {d : Int} {E : Ext} (hs : SrcAt b bs ⟨sl, k, d⟩ E) {n : Int} (hn : n = ((k + 1 : Nat) : Int)) (S : Int) : SrcTo b bs ⟨sl, k, d⟩ E ((E.upd ((⟨b, 0, none⟩ : Addr).add 1).block ((⟨b, 0, none⟩ : Addr).add 1).off [.int .i64 n]).upd ((⟨b, 0, none⟩ : Addr).add 2).block ((⟨b, 0, none⟩ : Addr).add 2).off [.int .u64 S]) := by
  have ho : ∀ a, a.block ≠ b → ((E.upd ((⟨b, 0, none⟩ : Addr).add 1).block ((⟨b, 0, none⟩ : Addr).add 1).off [.int .i64 n]).upd ((⟨b, 0, none⟩ : Addr).add 2).block ((⟨b, 0, none⟩ : Addr).add 2).off [.int .u64 S]) a = E a := fun a ha => (upd_other (b := b) ha).trans (upd_other (b := b) ha)
  subst hn
  refine ⟨⟨S, hs.own, ?_, ?_, ?_, ?_, hs.apart, hs.bytes⟩, rfl, ho⟩
  · exact ((upd_out (b := b) (o := 2) (j := 0) (.inl (by omega))).trans (upd_out (E := E) (b := b) (o := 1) (j := 0) (.inl (by omega)))).trans hs.c0
  · exact (upd_out (b := b) (o := 2) (j := 1) (.inl (by omega))).trans (upd_in (E := E) (b := b) (o := 1) (j := 1) (by omega) (by simp))
  · exact upd_in (b := b) (o := 2) (j := 2) (by omega) (by simp)
  · refine ⟨hs.row.1, hs.row.2.1, hs.row.2.2.1, fun a ha i x hx j v hj => ?_⟩
    rw [ho _ (by rw [add_block]; exact hs.apart (fun h => by rw [h] at hx; simp at hx) a ha)]
    exact hs.row.2.2.2 a ha i x hx j v hj
abbrev nextSp : Sp := .nf PA (fun x (l : Nat × List Int × Src) E => x.1 = ⟨l.1, 0, none⟩ ∧ SrcAt l.1 l.2.1 l.2.2 E ∧ l.2.2.at_ ≤ 1000000000) (fun _ _ (y : Int) => .int .i64 y) (fun _ l y E E' => Side (SrcTo l.1 l.2.1 l.2.2 E E' ∧ 0 ≤ y ∧ y ≤ 255))
set_option maxRecDepth 100000 in
theorem next_ok : Sp.ok Tryz.prog 91 nextSp := by
  refine Sp.nf_ok (T := ⟨[], []⟩) follows eqok0 trivial [(2, .take 0 (.take 1 (.take 2 (.take 3 (.take 4 (.take 5 (.take 6 (.take 7 (.take 8 (.take 9 (.done))))))))))), (3, .take 0 (.take 1 (.take 2 (.take 3 (.take 4 (.take 5 (.take 6 (.take 7 (.take 8 (.take 9 (.take 10 (.take 11 (.done))))))))))))), (6, .take 0 (.take 1 (.take 2 (.take 3 (.take 4 (.take 5 (.take 6 (.take 7 (.take 8 (.take 9 (.done)))))))))))] Tryz.func91 rfl (by kernel_rfl) _ _ _ _ fun x l E hp => ?_
  obtain ⟨a, u⟩ := x
  obtain ⟨b, bs, ⟨⟨sa, n, c⟩, k, d⟩⟩ := l
  obtain ⟨rfl, hs, hk⟩ := hp
  have f0 : E ((⟨b, 0, none⟩ : Addr).add 0) = some (.slice sa n c) := hs.c0
  have f1 : E ((⟨b, 0, none⟩ : Addr).add 1) = some (.int .i64 k) := hs.c1
  have f2 : E ((⟨b, 0, none⟩ : Addr).add 2) = some (.int .u64 d) := hs.c2
  dsimp only at hk
  have hw : IntKind.i64.wrap ((k : Int) + 1) = ((k + 1 : Nat) : Int) := by rw [wrap_in (by omega) (by omega)]; omega
  have o1 : Owned E ((⟨b, 0, none⟩ : Addr).add 1) 1 := ⟨rfl, _, hs.own, by show 0 + 1 + 1 ≤ 3; omega⟩
  have hn := hs.row.1
  dsimp only at hn
  let E1 := E.upd ((⟨b, 0, none⟩ : Addr).add 1).block ((⟨b, 0, none⟩ : Addr).add 1).off [.int .i64 (IntKind.i64.wrap ((k : Int) + 1))]
  have g2 : E1 ((⟨b, 0, none⟩ : Addr).add 2) = some (.int .u64 d) := (upd_out (E := E) (b := b) (o := 1) (j := 2) (.inr (by show 1 + 1 ≤ 2; omega))).trans hs.c2
  have o2 : Owned E1 ((⟨b, 0, none⟩ : Addr).add 2) 1 := ⟨rfl, _, hs.own, by show 0 + 2 + 1 ≤ 3; omega⟩
  have h0 : ∀ S, (E1.upd ((⟨b, 0, none⟩ : Addr).add 2).block ((⟨b, 0, none⟩ : Addr).add 2).off [S]) ((⟨b, 0, none⟩ : Addr).add 0) = some (.slice sa n c) := fun S => ((upd_out (E := E1) (b := b) (o := 2) (j := 0) (.inl (by omega))).trans (upd_out (E := E) (b := b) (o := 1) (j := 0) (.inl (by omega)))).trans hs.c0
  have h1 : ∀ S, (E1.upd ((⟨b, 0, none⟩ : Addr).add 2).block ((⟨b, 0, none⟩ : Addr).add 2).off [S]) ((⟨b, 0, none⟩ : Addr).add 1) = some (.int .i64 (IntKind.i64.wrap ((k : Int) + 1))) := fun S => (upd_out (E := E1) (b := b) (o := 2) (j := 1) (.inl (by omega))).trans (upd_in (E := E) (b := b) (o := 1) (j := 1) (by omega) (by simp))
  have h2 : ∀ S, (E1.upd ((⟨b, 0, none⟩ : Addr).add 2).block ((⟨b, 0, none⟩ : Addr).add 2).off [S]) ((⟨b, 0, none⟩ : Addr).add 2) = some S := fun S => upd_in (E := E1) (b := b) (o := 2) (j := 2) (by omega) (by simp)
  by_cases hlt : k < n
  · obtain ⟨ad, rfl⟩ : ∃ ad, sa = some ad := by
      cases sa with
      | none => have := hs.row.2.2.1 rfl; subst this; simp at hn; omega
      | some ad => exact ⟨ad, rfl⟩
    obtain ⟨z, hz⟩ : ∃ z, bs[k]? = some z := ⟨bs[k]'(by omega), List.getElem?_eq_getElem _⟩
    have f3 : E (ad.add ((k : Int).toNat * 1)) = some (.int .u8 z) := hs.row.at1 rfl hz rfl
    (repeat' ((conv => whnf); (first | with_reducible apply And.intro | (with_reducible intro hh; first | (with_reducible have hx := NewRow.self hh; clear hx) | (with_reducible have hrow := Made.row hh; have hle := Made.le hh; have hmade := hh; clear hh) | (with_reducible have hrow := Fresh.rowS hh; have hle := Fresh.leS hh; have hfr := hh; clear hh) | (with_reducible have hx := Ext.self hh; clear hx) | (with_reducible have hx := SlV.self hh; clear hx) | (with_reducible have hx := Value.self hh; clear hx) | with_reducible cases hh | skip) | (with_reducible apply AllEq.mk; intro yy hq) | with_reducible apply trivial | with_reducible apply Exists.intro () | (with_reducible apply ex_side; (first | with_reducible assumption | with_reducible apply fracs1 | with_reducible apply fracs2 | with_reducible apply fracs3 | with_reducible apply spans1 | with_reducible apply spans2 | (with_reducible apply NewRow.keep; with_reducible assumption) | (with_reducible apply RowAt.keep; with_reducible assumption) | assumption | (focus ((repeat (first | with_reducible assumption | (with_reducible apply RowAt.le; rotate_left; with_reducible assumption) | (with_reducible apply RowB.le; rotate_left; with_reducible assumption))); done)))) | (with_reducible apply ex_side (a := (_, _)); (focus (with_reducible apply And.intro <;> (focus ((repeat (first | with_reducible assumption | (with_reducible apply RowAt.le; rotate_left; with_reducible assumption) | (with_reducible apply RowB.le; rotate_left; with_reducible assumption))); done))))))); (all_goals (conv => whnf)))
    (all_goals (try dsimp only [Q.eta, Sn.eta, SlV.eta] at *)); (all_goals (first | exact Side.mk trivial | with_reducible exact Side.mk rfl | exact Side.mk (fun _ _ h => h) | exact Side.mk (Made.le (by assumption)) | refine Side.mk ?_ | refine Don.mk ?_ | skip))
    all_goals try (exfalso; have h9 := of_decide_eq_false hh; omega)
    all_goals first
      | exact o1
      | exact o2
      | (show 0 ≤ _ ∧ _; omega)
      | skip
    refine ⟨_, Side.mk (h1 _), ?_⟩
    (repeat' ((conv => whnf); (first | with_reducible apply And.intro | (with_reducible intro hh; first | (with_reducible have hx := NewRow.self hh; clear hx) | (with_reducible have hrow := Made.row hh; have hle := Made.le hh; have hmade := hh; clear hh) | (with_reducible have hrow := Fresh.rowS hh; have hle := Fresh.leS hh; have hfr := hh; clear hh) | (with_reducible have hx := Ext.self hh; clear hx) | (with_reducible have hx := SlV.self hh; clear hx) | (with_reducible have hx := Value.self hh; clear hx) | with_reducible cases hh | skip) | (with_reducible apply AllEq.mk; intro yy hq) | with_reducible apply trivial | with_reducible apply Exists.intro () | (with_reducible apply ex_side; (first | with_reducible assumption | with_reducible apply fracs1 | with_reducible apply fracs2 | with_reducible apply fracs3 | with_reducible apply spans1 | with_reducible apply spans2 | (with_reducible apply NewRow.keep; with_reducible assumption) | (with_reducible apply RowAt.keep; with_reducible assumption) | assumption | (focus ((repeat (first | with_reducible assumption | (with_reducible apply RowAt.le; rotate_left; with_reducible assumption) | (with_reducible apply RowB.le; rotate_left; with_reducible assumption))); done)))) | (with_reducible apply ex_side (a := (_, _)); (focus (with_reducible apply And.intro <;> (focus ((repeat (first | with_reducible assumption | (with_reducible apply RowAt.le; rotate_left; with_reducible assumption) | (with_reducible apply RowB.le; rotate_left; with_reducible assumption))); done))))))); (all_goals (conv => whnf)))
    (all_goals (try dsimp only [Q.eta, Sn.eta, SlV.eta] at *)); (all_goals (first | exact Side.mk trivial | with_reducible exact Side.mk rfl | exact Side.mk (fun _ _ h => h) | exact Side.mk (Made.le (by assumption)) | refine Side.mk ?_ | refine Don.mk ?_ | skip))
    all_goals first
      | (refine ⟨_, Side.mk (h0 _), ?_⟩
         (repeat' ((conv => whnf); (first | with_reducible apply And.intro | (with_reducible intro hh; first | (with_reducible have hx := NewRow.self hh; clear hx) | (with_reducible have hrow := Made.row hh; have hle := Made.le hh; have hmade := hh; clear hh) | (with_reducible have hrow := Fresh.rowS hh; have hle := Fresh.leS hh; have hfr := hh; clear hh) | (with_reducible have hx := Ext.self hh; clear hx) | (with_reducible have hx := SlV.self hh; clear hx) | (with_reducible have hx := Value.self hh; clear hx) | with_reducible cases hh | skip) | (with_reducible apply AllEq.mk; intro yy hq) | with_reducible apply trivial | with_reducible apply Exists.intro () | (with_reducible apply ex_side; (first | with_reducible assumption | with_reducible apply fracs1 | with_reducible apply fracs2 | with_reducible apply fracs3 | with_reducible apply spans1 | with_reducible apply spans2 | (with_reducible apply NewRow.keep; with_reducible assumption) | (with_reducible apply RowAt.keep; with_reducible assumption) | assumption | (focus ((repeat (first | with_reducible assumption | (with_reducible apply RowAt.le; rotate_left; with_reducible assumption) | (with_reducible apply RowB.le; rotate_left; with_reducible assumption))); done)))) | (with_reducible apply ex_side (a := (_, _)); (focus (with_reducible apply And.intro <;> (focus ((repeat (first | with_reducible assumption | (with_reducible apply RowAt.le; rotate_left; with_reducible assumption) | (with_reducible apply RowB.le; rotate_left; with_reducible assumption))); done))))))); (all_goals (conv => whnf)))
         (all_goals (try dsimp only [Q.eta, Sn.eta, SlV.eta] at *)); (all_goals (first | exact Side.mk trivial | with_reducible exact Side.mk rfl | exact Side.mk (fun _ _ h => h) | exact Side.mk (Made.le (by assumption)) | refine Side.mk ?_ | refine Don.mk ?_ | skip)))
      | (refine ⟨_, Side.mk (h1 _), ?_⟩
         (repeat' ((conv => whnf); (first | with_reducible apply And.intro | (with_reducible intro hh; first | (with_reducible have hx := NewRow.self hh; clear hx) | (with_reducible have hrow := Made.row hh; have hle := Made.le hh; have hmade := hh; clear hh) | (with_reducible have hrow := Fresh.rowS hh; have hle := Fresh.leS hh; have hfr := hh; clear hh) | (with_reducible have hx := Ext.self hh; clear hx) | (with_reducible have hx := SlV.self hh; clear hx) | (with_reducible have hx := Value.self hh; clear hx) | with_reducible cases hh | skip) | (with_reducible apply AllEq.mk; intro yy hq) | with_reducible apply trivial | with_reducible apply Exists.intro () | (with_reducible apply ex_side; (first | with_reducible assumption | with_reducible apply fracs1 | with_reducible apply fracs2 | with_reducible apply fracs3 | with_reducible apply spans1 | with_reducible apply spans2 | (with_reducible apply NewRow.keep; with_reducible assumption) | (with_reducible apply RowAt.keep; with_reducible assumption) | assumption | (focus ((repeat (first | with_reducible assumption | (with_reducible apply RowAt.le; rotate_left; with_reducible assumption) | (with_reducible apply RowB.le; rotate_left; with_reducible assumption))); done)))) | (with_reducible apply ex_side (a := (_, _)); (focus (with_reducible apply And.intro <;> (focus ((repeat (first | with_reducible assumption | (with_reducible apply RowAt.le; rotate_left; with_reducible assumption) | (with_reducible apply RowB.le; rotate_left; with_reducible assumption))); done))))))); (all_goals (conv => whnf)))
         (all_goals (try dsimp only [Q.eta, Sn.eta, SlV.eta] at *)); (all_goals (first | exact Side.mk trivial | with_reducible exact Side.mk rfl | exact Side.mk (fun _ _ h => h) | exact Side.mk (Made.le (by assumption)) | refine Side.mk ?_ | refine Don.mk ?_ | skip)))
      | skip
    all_goals first
      | (refine ⟨_, Side.mk (h0 _), ?_⟩
         (repeat' ((conv => whnf); (first | with_reducible apply And.intro | (with_reducible intro hh; first | (with_reducible have hx := NewRow.self hh; clear hx) | (with_reducible have hrow := Made.row hh; have hle := Made.le hh; have hmade := hh; clear hh) | (with_reducible have hrow := Fresh.rowS hh; have hle := Fresh.leS hh; have hfr := hh; clear hh) | (with_reducible have hx := Ext.self hh; clear hx) | (with_reducible have hx := SlV.self hh; clear hx) | (with_reducible have hx := Value.self hh; clear hx) | with_reducible cases hh | skip) | (with_reducible apply AllEq.mk; intro yy hq) | with_reducible apply trivial | with_reducible apply Exists.intro () | (with_reducible apply ex_side; (first | with_reducible assumption | with_reducible apply fracs1 | with_reducible apply fracs2 | with_reducible apply fracs3 | with_reducible apply spans1 | with_reducible apply spans2 | (with_reducible apply NewRow.keep; with_reducible assumption) | (with_reducible apply RowAt.keep; with_reducible assumption) | assumption | (focus ((repeat (first | with_reducible assumption | (with_reducible apply RowAt.le; rotate_left; with_reducible assumption) | (with_reducible apply RowB.le; rotate_left; with_reducible assumption))); done)))) | (with_reducible apply ex_side (a := (_, _)); (focus (with_reducible apply And.intro <;> (focus ((repeat (first | with_reducible assumption | (with_reducible apply RowAt.le; rotate_left; with_reducible assumption) | (with_reducible apply RowB.le; rotate_left; with_reducible assumption))); done))))))); (all_goals (conv => whnf)))
         (all_goals (try dsimp only [Q.eta, Sn.eta, SlV.eta] at *)); (all_goals (first | exact Side.mk trivial | with_reducible exact Side.mk rfl | exact Side.mk (fun _ _ h => h) | exact Side.mk (Made.le (by assumption)) | refine Side.mk ?_ | refine Don.mk ?_ | skip)))
      | (refine ⟨_, Side.mk (h2 _), ?_⟩
         (repeat' ((conv => whnf); (first | with_reducible apply And.intro | (with_reducible intro hh; first | (with_reducible have hx := NewRow.self hh; clear hx) | (with_reducible have hrow := Made.row hh; have hle := Made.le hh; have hmade := hh; clear hh) | (with_reducible have hrow := Fresh.rowS hh; have hle := Fresh.leS hh; have hfr := hh; clear hh) | (with_reducible have hx := Ext.self hh; clear hx) | (with_reducible have hx := SlV.self hh; clear hx) | (with_reducible have hx := Value.self hh; clear hx) | with_reducible cases hh | skip) | (with_reducible apply AllEq.mk; intro yy hq) | with_reducible apply trivial | with_reducible apply Exists.intro () | (with_reducible apply ex_side; (first | with_reducible assumption | with_reducible apply fracs1 | with_reducible apply fracs2 | with_reducible apply fracs3 | with_reducible apply spans1 | with_reducible apply spans2 | (with_reducible apply NewRow.keep; with_reducible assumption) | (with_reducible apply RowAt.keep; with_reducible assumption) | assumption | (focus ((repeat (first | with_reducible assumption | (with_reducible apply RowAt.le; rotate_left; with_reducible assumption) | (with_reducible apply RowB.le; rotate_left; with_reducible assumption))); done)))) | (with_reducible apply ex_side (a := (_, _)); (focus (with_reducible apply And.intro <;> (focus ((repeat (first | with_reducible assumption | (with_reducible apply RowAt.le; rotate_left; with_reducible assumption) | (with_reducible apply RowB.le; rotate_left; with_reducible assumption))); done))))))); (all_goals (conv => whnf)))
         (all_goals (try dsimp only [Q.eta, Sn.eta, SlV.eta] at *)); (all_goals (first | exact Side.mk trivial | with_reducible exact Side.mk rfl | exact Side.mk (fun _ _ h => h) | exact Side.mk (Made.le (by assumption)) | refine Side.mk ?_ | refine Don.mk ?_ | skip)))
      | skip
    · refine ⟨_, rfl, Side.mk ⟨src_to hs hw _, ?_⟩⟩
      have hb := hs.bytes z (List.mem_of_getElem? hz)
      rw [wrap_in (by omega) (by omega)]
      exact hb
    · exact ⟨_, rfl, Side.mk ⟨src_to hs hw _, and_bound _⟩⟩
  · (repeat' ((conv => whnf); (first | with_reducible apply And.intro | (with_reducible intro hh; first | (with_reducible have hx := NewRow.self hh; clear hx) | (with_reducible have hrow := Made.row hh; have hle := Made.le hh; have hmade := hh; clear hh) | (with_reducible have hrow := Fresh.rowS hh; have hle := Fresh.leS hh; have hfr := hh; clear hh) | (with_reducible have hx := Ext.self hh; clear hx) | (with_reducible have hx := SlV.self hh; clear hx) | (with_reducible have hx := Value.self hh; clear hx) | with_reducible cases hh | skip) | (with_reducible apply AllEq.mk; intro yy hq) | with_reducible apply trivial | with_reducible apply Exists.intro () | (with_reducible apply ex_side; (first | with_reducible assumption | with_reducible apply fracs1 | with_reducible apply fracs2 | with_reducible apply fracs3 | with_reducible apply spans1 | with_reducible apply spans2 | (with_reducible apply NewRow.keep; with_reducible assumption) | (with_reducible apply RowAt.keep; with_reducible assumption) | assumption | (focus ((repeat (first | with_reducible assumption | (with_reducible apply RowAt.le; rotate_left; with_reducible assumption) | (with_reducible apply RowB.le; rotate_left; with_reducible assumption))); done)))) | (with_reducible apply ex_side (a := (_, _)); (focus (with_reducible apply And.intro <;> (focus ((repeat (first | with_reducible assumption | (with_reducible apply RowAt.le; rotate_left; with_reducible assumption) | (with_reducible apply RowB.le; rotate_left; with_reducible assumption))); done))))))); (all_goals (conv => whnf)))
    (all_goals (try dsimp only [Q.eta, Sn.eta, SlV.eta] at *)); (all_goals (first | exact Side.mk trivial | with_reducible exact Side.mk rfl | exact Side.mk (fun _ _ h => h) | exact Side.mk (Made.le (by assumption)) | refine Side.mk ?_ | refine Don.mk ?_ | skip))
    all_goals try (exfalso; have h9 := of_decide_eq_true hh; omega)
    all_goals first
      | exact o1
      | exact o2
      | (show 0 ≤ _ ∧ _; omega)
      | skip
    refine ⟨_, Side.mk (h1 _), ?_⟩
    (repeat' ((conv => whnf); (first | with_reducible apply And.intro | (with_reducible intro hh; first | (with_reducible have hx := NewRow.self hh; clear hx) | (with_reducible have hrow := Made.row hh; have hle := Made.le hh; have hmade := hh; clear hh) | (with_reducible have hrow := Fresh.rowS hh; have hle := Fresh.leS hh; have hfr := hh; clear hh) | (with_reducible have hx := Ext.self hh; clear hx) | (with_reducible have hx := SlV.self hh; clear hx) | (with_reducible have hx := Value.self hh; clear hx) | with_reducible cases hh | skip) | (with_reducible apply AllEq.mk; intro yy hq) | with_reducible apply trivial | with_reducible apply Exists.intro () | (with_reducible apply ex_side; (first | with_reducible assumption | with_reducible apply fracs1 | with_reducible apply fracs2 | with_reducible apply fracs3 | with_reducible apply spans1 | with_reducible apply spans2 | (with_reducible apply NewRow.keep; with_reducible assumption) | (with_reducible apply RowAt.keep; with_reducible assumption) | assumption | (focus ((repeat (first | with_reducible assumption | (with_reducible apply RowAt.le; rotate_left; with_reducible assumption) | (with_reducible apply RowB.le; rotate_left; with_reducible assumption))); done)))) | (with_reducible apply ex_side (a := (_, _)); (focus (with_reducible apply And.intro <;> (focus ((repeat (first | with_reducible assumption | (with_reducible apply RowAt.le; rotate_left; with_reducible assumption) | (with_reducible apply RowB.le; rotate_left; with_reducible assumption))); done))))))); (all_goals (conv => whnf)))
    (all_goals (try dsimp only [Q.eta, Sn.eta, SlV.eta] at *)); (all_goals (first | exact Side.mk trivial | with_reducible exact Side.mk rfl | exact Side.mk (fun _ _ h => h) | exact Side.mk (Made.le (by assumption)) | refine Side.mk ?_ | refine Don.mk ?_ | skip))
    all_goals first
      | (refine ⟨_, Side.mk (h0 _), ?_⟩
         (repeat' ((conv => whnf); (first | with_reducible apply And.intro | (with_reducible intro hh; first | (with_reducible have hx := NewRow.self hh; clear hx) | (with_reducible have hrow := Made.row hh; have hle := Made.le hh; have hmade := hh; clear hh) | (with_reducible have hrow := Fresh.rowS hh; have hle := Fresh.leS hh; have hfr := hh; clear hh) | (with_reducible have hx := Ext.self hh; clear hx) | (with_reducible have hx := SlV.self hh; clear hx) | (with_reducible have hx := Value.self hh; clear hx) | with_reducible cases hh | skip) | (with_reducible apply AllEq.mk; intro yy hq) | with_reducible apply trivial | with_reducible apply Exists.intro () | (with_reducible apply ex_side; (first | with_reducible assumption | with_reducible apply fracs1 | with_reducible apply fracs2 | with_reducible apply fracs3 | with_reducible apply spans1 | with_reducible apply spans2 | (with_reducible apply NewRow.keep; with_reducible assumption) | (with_reducible apply RowAt.keep; with_reducible assumption) | assumption | (focus ((repeat (first | with_reducible assumption | (with_reducible apply RowAt.le; rotate_left; with_reducible assumption) | (with_reducible apply RowB.le; rotate_left; with_reducible assumption))); done)))) | (with_reducible apply ex_side (a := (_, _)); (focus (with_reducible apply And.intro <;> (focus ((repeat (first | with_reducible assumption | (with_reducible apply RowAt.le; rotate_left; with_reducible assumption) | (with_reducible apply RowB.le; rotate_left; with_reducible assumption))); done))))))); (all_goals (conv => whnf)))
         (all_goals (try dsimp only [Q.eta, Sn.eta, SlV.eta] at *)); (all_goals (first | exact Side.mk trivial | with_reducible exact Side.mk rfl | exact Side.mk (fun _ _ h => h) | exact Side.mk (Made.le (by assumption)) | refine Side.mk ?_ | refine Don.mk ?_ | skip)))
      | (refine ⟨_, Side.mk (h1 _), ?_⟩
         (repeat' ((conv => whnf); (first | with_reducible apply And.intro | (with_reducible intro hh; first | (with_reducible have hx := NewRow.self hh; clear hx) | (with_reducible have hrow := Made.row hh; have hle := Made.le hh; have hmade := hh; clear hh) | (with_reducible have hrow := Fresh.rowS hh; have hle := Fresh.leS hh; have hfr := hh; clear hh) | (with_reducible have hx := Ext.self hh; clear hx) | (with_reducible have hx := SlV.self hh; clear hx) | (with_reducible have hx := Value.self hh; clear hx) | with_reducible cases hh | skip) | (with_reducible apply AllEq.mk; intro yy hq) | with_reducible apply trivial | with_reducible apply Exists.intro () | (with_reducible apply ex_side; (first | with_reducible assumption | with_reducible apply fracs1 | with_reducible apply fracs2 | with_reducible apply fracs3 | with_reducible apply spans1 | with_reducible apply spans2 | (with_reducible apply NewRow.keep; with_reducible assumption) | (with_reducible apply RowAt.keep; with_reducible assumption) | assumption | (focus ((repeat (first | with_reducible assumption | (with_reducible apply RowAt.le; rotate_left; with_reducible assumption) | (with_reducible apply RowB.le; rotate_left; with_reducible assumption))); done)))) | (with_reducible apply ex_side (a := (_, _)); (focus (with_reducible apply And.intro <;> (focus ((repeat (first | with_reducible assumption | (with_reducible apply RowAt.le; rotate_left; with_reducible assumption) | (with_reducible apply RowB.le; rotate_left; with_reducible assumption))); done))))))); (all_goals (conv => whnf)))
         (all_goals (try dsimp only [Q.eta, Sn.eta, SlV.eta] at *)); (all_goals (first | exact Side.mk trivial | with_reducible exact Side.mk rfl | exact Side.mk (fun _ _ h => h) | exact Side.mk (Made.le (by assumption)) | refine Side.mk ?_ | refine Don.mk ?_ | skip)))
      | skip
    all_goals first
      | (refine ⟨_, Side.mk (h0 _), ?_⟩
         (repeat' ((conv => whnf); (first | with_reducible apply And.intro | (with_reducible intro hh; first | (with_reducible have hx := NewRow.self hh; clear hx) | (with_reducible have hrow := Made.row hh; have hle := Made.le hh; have hmade := hh; clear hh) | (with_reducible have hrow := Fresh.rowS hh; have hle := Fresh.leS hh; have hfr := hh; clear hh) | (with_reducible have hx := Ext.self hh; clear hx) | (with_reducible have hx := SlV.self hh; clear hx) | (with_reducible have hx := Value.self hh; clear hx) | with_reducible cases hh | skip) | (with_reducible apply AllEq.mk; intro yy hq) | with_reducible apply trivial | with_reducible apply Exists.intro () | (with_reducible apply ex_side; (first | with_reducible assumption | with_reducible apply fracs1 | with_reducible apply fracs2 | with_reducible apply fracs3 | with_reducible apply spans1 | with_reducible apply spans2 | (with_reducible apply NewRow.keep; with_reducible assumption) | (with_reducible apply RowAt.keep; with_reducible assumption) | assumption | (focus ((repeat (first | with_reducible assumption | (with_reducible apply RowAt.le; rotate_left; with_reducible assumption) | (with_reducible apply RowB.le; rotate_left; with_reducible assumption))); done)))) | (with_reducible apply ex_side (a := (_, _)); (focus (with_reducible apply And.intro <;> (focus ((repeat (first | with_reducible assumption | (with_reducible apply RowAt.le; rotate_left; with_reducible assumption) | (with_reducible apply RowB.le; rotate_left; with_reducible assumption))); done))))))); (all_goals (conv => whnf)))
         (all_goals (try dsimp only [Q.eta, Sn.eta, SlV.eta] at *)); (all_goals (first | exact Side.mk trivial | with_reducible exact Side.mk rfl | exact Side.mk (fun _ _ h => h) | exact Side.mk (Made.le (by assumption)) | refine Side.mk ?_ | refine Don.mk ?_ | skip)))
      | (refine ⟨_, Side.mk (h2 _), ?_⟩
         (repeat' ((conv => whnf); (first | with_reducible apply And.intro | (with_reducible intro hh; first | (with_reducible have hx := NewRow.self hh; clear hx) | (with_reducible have hrow := Made.row hh; have hle := Made.le hh; have hmade := hh; clear hh) | (with_reducible have hrow := Fresh.rowS hh; have hle := Fresh.leS hh; have hfr := hh; clear hh) | (with_reducible have hx := Ext.self hh; clear hx) | (with_reducible have hx := SlV.self hh; clear hx) | (with_reducible have hx := Value.self hh; clear hx) | with_reducible cases hh | skip) | (with_reducible apply AllEq.mk; intro yy hq) | with_reducible apply trivial | with_reducible apply Exists.intro () | (with_reducible apply ex_side; (first | with_reducible assumption | with_reducible apply fracs1 | with_reducible apply fracs2 | with_reducible apply fracs3 | with_reducible apply spans1 | with_reducible apply spans2 | (with_reducible apply NewRow.keep; with_reducible assumption) | (with_reducible apply RowAt.keep; with_reducible assumption) | assumption | (focus ((repeat (first | with_reducible assumption | (with_reducible apply RowAt.le; rotate_left; with_reducible assumption) | (with_reducible apply RowB.le; rotate_left; with_reducible assumption))); done)))) | (with_reducible apply ex_side (a := (_, _)); (focus (with_reducible apply And.intro <;> (focus ((repeat (first | with_reducible assumption | (with_reducible apply RowAt.le; rotate_left; with_reducible assumption) | (with_reducible apply RowB.le; rotate_left; with_reducible assumption))); done))))))); (all_goals (conv => whnf)))
         (all_goals (try dsimp only [Q.eta, Sn.eta, SlV.eta] at *)); (all_goals (first | exact Side.mk trivial | with_reducible exact Side.mk rfl | exact Side.mk (fun _ _ h => h) | exact Side.mk (Made.le (by assumption)) | refine Side.mk ?_ | refine Don.mk ?_ | skip)))
      | skip
    · refine ⟨_, rfl, Side.mk ⟨src_to hs hw _, ?_⟩⟩
      exact ⟨by decide, by decide⟩
    · exact ⟨_, rfl, Side.mk ⟨src_to hs hw _, and_bound _⟩⟩
/-- What draws leave, of which there may be some. -/
structure SrcOn (b : Nat) (bs : List Int) (s : Src) (n : Nat) (E E' : Ext) : Prop where
  src : ∃ k d, k ≤ s.at_ + n ∧ SrcAt b bs ⟨s.sl, k, d⟩ E'
  own : E'.own = E.own
  rest : ∀ a, a.block ≠ b → E' a = E a
theorem SrcTo.on {b : Nat} {bs : List Int} {s : Src} {E E' : Ext} (h : SrcTo b bs s E E') {n : Nat} (hn : 1 ≤ n) : SrcOn b bs s n E E' := by
  obtain ⟨d, hd⟩ := h.src
  exact ⟨⟨_, d, by omega, hd⟩, h.own, h.rest⟩
abbrev PI1 : ArgL (Addr × Int × Unit) := .cons Arg.ptr (.cons .int .nil)
abbrev pickSp : Sp := .nf PI1 (fun x (l : Nat × List Int × Src) E => x.1 = ⟨l.1, 0, none⟩ ∧ SrcAt l.1 l.2.1 l.2.2 E ∧ l.2.2.at_ ≤ 900000000 ∧ x.2.1 ≤ 1000000000) (fun _ _ (y : Int) => .int .i64 y) (fun x l y E E' => Side (SrcOn l.1 l.2.1 l.2.2 2 E E' ∧ 0 ≤ y ∧ (1 ≤ x.2.1 → y < x.2.1) ∧ (x.2.1 ≤ 1 → y = 0)))
set_option maxRecDepth 100000 in
theorem pick_ok : Sp.ok Tryz.prog 42 pickSp := by
  refine Sp.nf_ok (T := ⟨[(91, nextSp)], []⟩) follows eqok0 ⟨enters Tryz.func91 rfl rfl, next_ok, trivial⟩ [] Tryz.func42 rfl (by kernel_rfl) _ _ _ _ fun x l E hp => ?_
  obtain ⟨a, n, u⟩ := x
  obtain ⟨b, bs, ⟨sl, k, d⟩⟩ := l
  obtain ⟨rfl, hs, hk, hn⟩ := hp
  dsimp only at hk hn
  (repeat' ((conv => whnf); (first | with_reducible apply And.intro | (with_reducible intro hh; first | (with_reducible have hx := NewRow.self hh; clear hx) | (with_reducible have hrow := Made.row hh; have hle := Made.le hh; have hmade := hh; clear hh) | (with_reducible have hrow := Fresh.rowS hh; have hle := Fresh.leS hh; have hfr := hh; clear hh) | (with_reducible have hx := Ext.self hh; clear hx) | (with_reducible have hx := SlV.self hh; clear hx) | (with_reducible have hx := Value.self hh; clear hx) | with_reducible cases hh | skip) | (with_reducible apply AllEq.mk; intro yy hq) | with_reducible apply trivial | with_reducible apply Exists.intro () | (with_reducible apply ex_side; (first | with_reducible assumption | with_reducible apply fracs1 | with_reducible apply fracs2 | with_reducible apply fracs3 | with_reducible apply spans1 | with_reducible apply spans2 | (with_reducible apply NewRow.keep; with_reducible assumption) | (with_reducible apply RowAt.keep; with_reducible assumption) | assumption | (focus ((repeat (first | with_reducible assumption | (with_reducible apply RowAt.le; rotate_left; with_reducible assumption) | (with_reducible apply RowB.le; rotate_left; with_reducible assumption))); done)))) | (with_reducible apply ex_side (a := (_, _)); (focus (with_reducible apply And.intro <;> (focus ((repeat (first | with_reducible assumption | (with_reducible apply RowAt.le; rotate_left; with_reducible assumption) | (with_reducible apply RowB.le; rotate_left; with_reducible assumption))); done))))))); (all_goals (conv => whnf)))
  (all_goals (try dsimp only [Q.eta, Sn.eta, SlV.eta] at *)); (all_goals (first | exact Side.mk trivial | with_reducible exact Side.mk rfl | exact Side.mk (fun _ _ h => h) | exact Side.mk (Made.le (by assumption)) | refine Side.mk ?_ | refine Don.mk ?_ | skip))
  · exact ⟨0, rfl, Side.mk ⟨⟨⟨k, d, by show k ≤ k + 2; omega, hs⟩, rfl, fun _ _ => rfl⟩, by omega, fun h => by have := of_decide_eq_true hh; omega, fun _ => rfl⟩⟩
  have hn1 : ¬n ≤ 1 := of_decide_eq_false hh
  refine ⟨(b, bs, ⟨sl, k, d⟩), Side.mk ⟨rfl, hs, by dsimp only; omega⟩, fun y E1 h1 => ?_⟩
  obtain ⟨h1, h2, h3⟩ := h1.out
  clear hh
  (repeat' ((conv => whnf); (first | with_reducible apply And.intro | (with_reducible intro hh; first | (with_reducible have hx := NewRow.self hh; clear hx) | (with_reducible have hrow := Made.row hh; have hle := Made.le hh; have hmade := hh; clear hh) | (with_reducible have hrow := Fresh.rowS hh; have hle := Fresh.leS hh; have hfr := hh; clear hh) | (with_reducible have hx := Ext.self hh; clear hx) | (with_reducible have hx := SlV.self hh; clear hx) | (with_reducible have hx := Value.self hh; clear hx) | with_reducible cases hh | skip) | (with_reducible apply AllEq.mk; intro yy hq) | with_reducible apply trivial | with_reducible apply Exists.intro () | (with_reducible apply ex_side; (first | with_reducible assumption | with_reducible apply fracs1 | with_reducible apply fracs2 | with_reducible apply fracs3 | with_reducible apply spans1 | with_reducible apply spans2 | (with_reducible apply NewRow.keep; with_reducible assumption) | (with_reducible apply RowAt.keep; with_reducible assumption) | assumption | (focus ((repeat (first | with_reducible assumption | (with_reducible apply RowAt.le; rotate_left; with_reducible assumption) | (with_reducible apply RowB.le; rotate_left; with_reducible assumption))); done)))) | (with_reducible apply ex_side (a := (_, _)); (focus (with_reducible apply And.intro <;> (focus ((repeat (first | with_reducible assumption | (with_reducible apply RowAt.le; rotate_left; with_reducible assumption) | (with_reducible apply RowB.le; rotate_left; with_reducible assumption))); done))))))); (all_goals (conv => whnf)))
  (all_goals (try dsimp only [Q.eta, Sn.eta, SlV.eta] at *)); (all_goals (first | exact Side.mk trivial | with_reducible exact Side.mk rfl | exact Side.mk (fun _ _ h => h) | exact Side.mk (Made.le (by assumption)) | refine Side.mk ?_ | refine Don.mk ?_ | skip))
  all_goals first
    | omega
    | skip
  · obtain ⟨d1, hs1⟩ := h1.src
    refine ⟨(b, bs, ⟨sl, k + 1, d1⟩), Side.mk ⟨rfl, hs1, by dsimp only; omega⟩, fun y2 E2 k1 => ?_⟩
    obtain ⟨k1, k2, k3⟩ := k1.out
    (repeat' ((conv => whnf); (first | with_reducible apply And.intro | (with_reducible intro hh; first | (with_reducible have hx := NewRow.self hh; clear hx) | (with_reducible have hrow := Made.row hh; have hle := Made.le hh; have hmade := hh; clear hh) | (with_reducible have hrow := Fresh.rowS hh; have hle := Fresh.leS hh; have hfr := hh; clear hh) | (with_reducible have hx := Ext.self hh; clear hx) | (with_reducible have hx := SlV.self hh; clear hx) | (with_reducible have hx := Value.self hh; clear hx) | with_reducible cases hh | skip) | (with_reducible apply AllEq.mk; intro yy hq) | with_reducible apply trivial | with_reducible apply Exists.intro () | (with_reducible apply ex_side; (first | with_reducible assumption | with_reducible apply fracs1 | with_reducible apply fracs2 | with_reducible apply fracs3 | with_reducible apply spans1 | with_reducible apply spans2 | (with_reducible apply NewRow.keep; with_reducible assumption) | (with_reducible apply RowAt.keep; with_reducible assumption) | assumption | (focus ((repeat (first | with_reducible assumption | (with_reducible apply RowAt.le; rotate_left; with_reducible assumption) | (with_reducible apply RowB.le; rotate_left; with_reducible assumption))); done)))) | (with_reducible apply ex_side (a := (_, _)); (focus (with_reducible apply And.intro <;> (focus ((repeat (first | with_reducible assumption | (with_reducible apply RowAt.le; rotate_left; with_reducible assumption) | (with_reducible apply RowB.le; rotate_left; with_reducible assumption))); done))))))); (all_goals (conv => whnf)))
    (all_goals (try dsimp only [Q.eta, Sn.eta, SlV.eta] at *)); (all_goals (first | exact Side.mk trivial | with_reducible exact Side.mk rfl | exact Side.mk (fun _ _ h => h) | exact Side.mk (Made.le (by assumption)) | refine Side.mk ?_ | refine Don.mk ?_ | skip))
    all_goals first
      | omega
      | skip
    obtain ⟨d2, hs2⟩ := k1.src
    have hw : IntKind.i64.wrap (IntKind.i64.wrap (y * 256) + y2) = y * 256 + y2 := by rw [wrap_in (a := y * 256) (by omega) (by omega), wrap_in (by omega) (by omega)]
    rw [hw]
    exact ⟨_, rfl, Side.mk ⟨⟨⟨_, d2, by show k + 1 + 1 ≤ k + 2; omega, hs2⟩, k1.own.trans h1.own, fun a ha => (k1.rest a ha).trans (h1.rest a ha)⟩, Int.tmod_nonneg _ (by omega), fun _ => Int.tmod_lt_of_pos _ (by show 0 < n; omega), fun h => by exfalso; have h' : n ≤ 1 := h; omega⟩⟩
  · exact ⟨_, rfl, Side.mk ⟨h1.on (by omega), Int.tmod_nonneg _ (by omega), fun _ => Int.tmod_lt_of_pos _ (by show 0 < n; omega), fun h => by exfalso; have h' : n ≤ 1 := h; omega⟩⟩
/-- A block's number. -/
structure Bk where
  n : Nat
abbrev fromSp : Sp := .nf FS (fun x (bs : List Int) E => IntsAt .u8 x.1 bs E ∧ ∀ x ∈ bs, 0 ≤ x ∧ x ≤ 255) (fun _ _ (y : Bk) => .pointer (some ⟨y.n, 0, none⟩)) (fun x bs y E E' => Side (SrcAt y.n bs ⟨x.1, 0, 0⟩ E' ∧ Keeps E E' ∧ E.own y.n = none ∧ ∀ a v, E a = some v → a.block ≠ y.n))
set_option maxRecDepth 100000 in
theorem from_ok : Sp.ok Tryz.prog 40 fromSp := by
  refine Sp.nf_ok (T := ⟨[], [5]⟩) follows eqok0 trivial [] Tryz.func40 rfl (by kernel_rfl) _ _ _ _ fun x bs E hp => ?_
  obtain ⟨⟨sa, n, c⟩, u⟩ := x
  (repeat' ((conv => whnf); (first | with_reducible apply And.intro | (with_reducible intro hh; first | (with_reducible have hx := NewRow.self hh; clear hx) | (with_reducible have hrow := Made.row hh; have hle := Made.le hh; have hmade := hh; clear hh) | (with_reducible have hrow := Fresh.rowS hh; have hle := Fresh.leS hh; have hfr := hh; clear hh) | (with_reducible have hx := Ext.self hh; clear hx) | (with_reducible have hx := SlV.self hh; clear hx) | (with_reducible have hx := Value.self hh; clear hx) | with_reducible cases hh | skip) | (with_reducible apply AllEq.mk; intro yy hq) | with_reducible apply trivial | with_reducible apply Exists.intro () | (with_reducible apply ex_side; (first | with_reducible assumption | with_reducible apply fracs1 | with_reducible apply fracs2 | with_reducible apply fracs3 | with_reducible apply spans1 | with_reducible apply spans2 | (with_reducible apply NewRow.keep; with_reducible assumption) | (with_reducible apply RowAt.keep; with_reducible assumption) | assumption | (focus ((repeat (first | with_reducible assumption | (with_reducible apply RowAt.le; rotate_left; with_reducible assumption) | (with_reducible apply RowB.le; rotate_left; with_reducible assumption))); done)))) | (with_reducible apply ex_side (a := (_, _)); (focus (with_reducible apply And.intro <;> (focus ((repeat (first | with_reducible assumption | (with_reducible apply RowAt.le; rotate_left; with_reducible assumption) | (with_reducible apply RowB.le; rotate_left; with_reducible assumption))); done))))))); (all_goals (conv => whnf)))
  (all_goals (try dsimp only [Q.eta, Sn.eta, SlV.eta] at *)); (all_goals (first | exact Side.mk trivial | with_reducible exact Side.mk rfl | exact Side.mk (fun _ _ h => h) | exact Side.mk (Made.le (by assumption)) | refine Side.mk ?_ | refine Don.mk ?_ | skip))
  refine ⟨⟨hh.b⟩, rfl, Side.mk ⟨⟨new_own hh, hh.at_ 0, hh.at_ 1, hh.at_ 2, RowAt.le hp.1 hh.le, fun hne a ha hb => ?_, hp.2⟩, Keeps.new hh, hh.fresho, hh.fresh⟩⟩
  cases bs with
  | nil => exact hne rfl
  | cons z r =>
    have h0 := hp.1.2.2.2 a ha 0 z rfl 0 _ rfl
    exact hh.fresh _ _ h0 (by rw [add_block]; exact hb)
/-- A byte string, as an argument. -/
abbrev BA : ArgL (SlV × Unit) := .cons .slice .nil
theorem on_keeps {y : Nat} {bs : List Int} {s : Src} {n : Nat} {E E1 E2 : Ext} (h : Keeps E E1) (ho : E.own y = none) (hf : ∀ a v, E a = some v → a.block ≠ y) (k : SrcOn y bs s n E1 E2) : Keeps E E2 := by
  refine ⟨fun a v ha => ?_, fun b p hb => ?_⟩
  · rw [k.rest a (hf a v ha)]
    exact h.le a v ha
  · have hne : b ≠ y := fun e => by rw [e, ho] at hb; cases hb
    obtain ⟨k1, k2⟩ := h.keep b p hb
    exact ⟨by rw [k.own]; exact k1, fun a ha => by rw [k.rest a (by rw [ha]; exact hne), k2 a ha]⟩
abbrev Bytes8 (s : SlV) (bs : List Int) (E : Ext) : Prop := IntsAt .u8 s bs E ∧ ∀ x ∈ bs, 0 ≤ x ∧ x ≤ 255
abbrev BI1 : ArgL (SlV × Int × Unit) := .cons .slice (.cons .int .nil)
abbrev p6pickSp : Sp := .nf BI1 (fun x (bs : List Int) E => Bytes8 x.1 bs E ∧ x.2.1 ≤ 1000000000) (fun _ _ (y : Int) => .int .i64 y) (fun x _ y E E' => Side (Keeps E E' ∧ 0 ≤ y ∧ (1 ≤ x.2.1 → y < x.2.1) ∧ (x.2.1 ≤ 1 → y = 0)))
set_option maxRecDepth 100000 in
theorem p6pick_ok : Sp.ok Tryz.prog 23 p6pickSp := by
  refine Sp.nf_ok (T := ⟨[(40, fromSp), (42, pickSp)], []⟩) follows eqok0 ⟨enters Tryz.func40 rfl rfl, from_ok, enters Tryz.func42 rfl rfl, pick_ok, trivial⟩ [] Tryz.func23 rfl (by kernel_rfl) _ _ _ _ fun x bs E hp => ?_
  obtain ⟨⟨sa, n, c⟩, m, u⟩ := x
  obtain ⟨hb, hm⟩ := hp
  dsimp only at hm
  (repeat' ((conv => whnf); (first | with_reducible apply And.intro | (with_reducible intro hh; first | (with_reducible have hx := NewRow.self hh; clear hx) | (with_reducible have hrow := Made.row hh; have hle := Made.le hh; have hmade := hh; clear hh) | (with_reducible have hrow := Fresh.rowS hh; have hle := Fresh.leS hh; have hfr := hh; clear hh) | (with_reducible have hx := Ext.self hh; clear hx) | (with_reducible have hx := SlV.self hh; clear hx) | (with_reducible have hx := Value.self hh; clear hx) | with_reducible cases hh | skip) | (with_reducible apply AllEq.mk; intro yy hq) | with_reducible apply trivial | with_reducible apply Exists.intro () | (with_reducible apply ex_side; (first | with_reducible assumption | with_reducible apply fracs1 | with_reducible apply fracs2 | with_reducible apply fracs3 | with_reducible apply spans1 | with_reducible apply spans2 | (with_reducible apply NewRow.keep; with_reducible assumption) | (with_reducible apply RowAt.keep; with_reducible assumption) | assumption | (focus ((repeat (first | with_reducible assumption | (with_reducible apply RowAt.le; rotate_left; with_reducible assumption) | (with_reducible apply RowB.le; rotate_left; with_reducible assumption))); done)))) | (with_reducible apply ex_side (a := (_, _)); (focus (with_reducible apply And.intro <;> (focus ((repeat (first | with_reducible assumption | (with_reducible apply RowAt.le; rotate_left; with_reducible assumption) | (with_reducible apply RowB.le; rotate_left; with_reducible assumption))); done))))))); (all_goals (conv => whnf)))
  (all_goals (try dsimp only [Q.eta, Sn.eta, SlV.eta] at *)); (all_goals (first | exact Side.mk trivial | with_reducible exact Side.mk rfl | exact Side.mk (fun _ _ h => h) | exact Side.mk (Made.le (by assumption)) | refine Side.mk ?_ | refine Don.mk ?_ | skip))
  rename_i y E1
  obtain ⟨s1, k1, o1, f1⟩ := hh.out
  clear hh
  refine ⟨(y, bs, _), Side.mk ⟨rfl, s1, by dsimp only; omega, hm⟩, fun v E2 h2 => ?_⟩
  obtain ⟨s2, v0, v1, v2⟩ := h2.out
  (repeat' ((conv => whnf); (first | with_reducible apply And.intro | (with_reducible intro hh; first | (with_reducible have hx := NewRow.self hh; clear hx) | (with_reducible have hrow := Made.row hh; have hle := Made.le hh; have hmade := hh; clear hh) | (with_reducible have hrow := Fresh.rowS hh; have hle := Fresh.leS hh; have hfr := hh; clear hh) | (with_reducible have hx := Ext.self hh; clear hx) | (with_reducible have hx := SlV.self hh; clear hx) | (with_reducible have hx := Value.self hh; clear hx) | with_reducible cases hh | skip) | (with_reducible apply AllEq.mk; intro yy hq) | with_reducible apply trivial | with_reducible apply Exists.intro () | (with_reducible apply ex_side; (first | with_reducible assumption | with_reducible apply fracs1 | with_reducible apply fracs2 | with_reducible apply fracs3 | with_reducible apply spans1 | with_reducible apply spans2 | (with_reducible apply NewRow.keep; with_reducible assumption) | (with_reducible apply RowAt.keep; with_reducible assumption) | assumption | (focus ((repeat (first | with_reducible assumption | (with_reducible apply RowAt.le; rotate_left; with_reducible assumption) | (with_reducible apply RowB.le; rotate_left; with_reducible assumption))); done)))) | (with_reducible apply ex_side (a := (_, _)); (focus (with_reducible apply And.intro <;> (focus ((repeat (first | with_reducible assumption | (with_reducible apply RowAt.le; rotate_left; with_reducible assumption) | (with_reducible apply RowB.le; rotate_left; with_reducible assumption))); done))))))); (all_goals (conv => whnf)))
  (all_goals (try dsimp only [Q.eta, Sn.eta, SlV.eta] at *)); (all_goals (first | exact Side.mk trivial | with_reducible exact Side.mk rfl | exact Side.mk (fun _ _ h => h) | exact Side.mk (Made.le (by assumption)) | refine Side.mk ?_ | refine Don.mk ?_ | skip))
  exact ⟨v, rfl, Side.mk ⟨on_keeps k1 o1 f1 s2, v0, v1, v2⟩⟩

end Go.Proofs.YtadliapkjijahaaGreatDoor
