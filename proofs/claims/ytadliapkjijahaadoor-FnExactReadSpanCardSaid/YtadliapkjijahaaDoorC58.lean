/- Contracts of both packages' functions that read spans from texts; condition: texts of a million bytes at most. (Built with what is known of five variables: GTV=.R) -/
import Derived.Test.YtadliapkjijahaaDoorAb
import Derived.Test.YtadliapkjijahaaDoorC1
import Derived.Test.YtadliapkjijahaaDoorC2
import Derived.Test.YtadliapkjijahaaDoorC3
import Derived.Test.YtadliapkjijahaaDoorC4
import Derived.Test.YtadliapkjijahaaDoorC5
import Derived.Test.YtadliapkjijahaaDoorC6
import Derived.Test.YtadliapkjijahaaDoorC7
import Derived.Test.YtadliapkjijahaaDoorC10
import Derived.Test.YtadliapkjijahaaDoorC12
import Derived.Test.YtadliapkjijahaaDoorC24
import Derived.Test.YtadliapkjijahaaDoorC25
import Derived.Test.YtadliapkjijahaaDoorC30
import Derived.Test.YtadliapkjijahaaDoorCN
import Derived.Test.YtadliapkjijahaaDoorCK
import Derived.Test.YtadliapkjijahaaDoorCG
import Derived.Test.YtadliapkjijahaaDoorCF
import Derived.Test.YtadliapkjijahaaDoorCP
import Derived.Test.YtadliapkjijahaaDoorC50
import Derived.Test.YtadliapkjijahaaDoorC51
import Derived.Test.YtadliapkjijahaaDoorC53
import Derived.Test.YtadliapkjijahaaDoorC54
import Derived.Test.YtadliapkjijahaaDoorC55
import Derived.Test.YtadliapkjijahaaDoorC56
import Derived.Test.YtadliapkjijahaaDoorC57
import Derived.Test.YtadliapkjijahaaDoorProg
set_option linter.unusedVariables false
set_option linter.unusedSimpArgs false
namespace Go.Proofs.YtadliapkjijahaaDoor
open Ab

open Go.Shelf Go.RowKit Go.Lib Go.Sort
theorem rs_end {l : List UInt8} {k : Nat} {e : UInt8} {p1 p2 : Q} {o1 o2 : Bool} (hf : firstD l = some k) (he : l[k + 1]? = some e) {x1 x2 : List UInt8} (e1 : x1 = l.take k) (e2 : x2 = l.drop (k + 2)) (h1 : o1 = (readV x1).2 ∧ (o1 = true → p1 = (readV x1).1))
    (h2 : o2 = (readV x2).2 ∧ (o2 = true → p2 = (readV x2).1)) {t : Bool} (ht : ((e.toNat : Int) == 46) = t) :
    ((t && o1 && o2) && okS ⟨p1, p2⟩) = (readSV l).2 ∧ (((t && o1 && o2) && okS ⟨p1, p2⟩) = true → (⟨p1, p2⟩ : Sn) = (readSV l).1) := by
  subst e1 e2
  obtain ⟨h1, g1⟩ := h1
  obtain ⟨h2, g2⟩ := h2
  have hd : decide (l[k + 1]? = some 46) = t := by
    rw [he, ← ht]
    by_cases h : e = 46
    · rw [h]; rfl
    · have h3 : ((e.toNat : Int) == 46) = false := by
        apply Bool.eq_false_iff.2
        intro h4
        exact h (u8_eq (d := 46) h4)
      rw [h3]
      simp [h]
  unfold readSV
  rw [hf]
  dsimp only
  rw [hd, ← h1, ← h2]
  cases o1 with
  | false => simp
  | true =>
    cases o2 with
    | false => simp
    | true =>
      rw [g1 rfl, g2 rfl]
      exact ⟨rfl, fun _ => rfl⟩
abbrev rsSp : Sp := .nf T1 (fun x (_ : Unit) _ => x.1.size ≤ 1048576) (fun x _ (y : Sn × Bool) => .tuple #[y.1.v, .bool y.2]) (fun x _ y E E' => Keeps E E' ∧ y.2 = (readSV (bl x.1)).2 ∧ (y.2 = true → y.1 = (readSV (bl x.1)).1))

set_option maxHeartbeats 2000000 in
set_option maxRecDepth 100000 in
theorem rs_ok : Sp.ok Tryd.prog 42 rsSp := by
  refine Sp.nf_ok (T := ⟨[(39, rdSp), (29, spanPSp)], []⟩) follows eqok0 ⟨enters Tryd.func39 rfl rfl, rd_ok, enters Tryd.func29 rfl rfl, spanP_ok, trivial⟩ [(8, .take 0 (.take 1 (.take 2 (.take 3 (.take 4 (.take 5 (.take 6 (.take 7 (.take 8 (.take 9 (.take 10 (.take 11 (.take 12 (.alt 13 (.take 14 (.alt 15 (.take 16 (.done)) (.last))) (.last)))))))))))))))] Tryd.func42 rfl (by kernel_rfl) _ _ _ _ fun x l E hp => ?_
  obtain ⟨b, u⟩ := x
  dsimp only at hp
  have hsz := ba_len b
  obtain ⟨l, hl⟩ : ∃ l, l = b.data.toList := ⟨_, rfl⟩
  have hbl : bl b = l := hl.symm
  rw [← hl] at hsz
  (repeat' ((conv => whnf); (first | with_reducible apply And.intro | (with_reducible intro hh; first | (with_reducible have hx := NewRow.self hh; clear hx) | (with_reducible have hrow := Made.row hh; have hle := Made.le hh; have hmade := hh; clear hh) | (with_reducible have hrow := Fresh.rowS hh; have hle := Fresh.leS hh; have hfr := hh; clear hh) | (with_reducible have hx := Ext.self hh; clear hx) | (with_reducible have hx := SlV.self hh; clear hx) | (with_reducible have hx := Value.self hh; clear hx) | with_reducible cases hh | skip) | (with_reducible apply AllEq.mk; intro yy hq) | with_reducible apply trivial | with_reducible apply Exists.intro () | (with_reducible apply ex_side; (first | with_reducible assumption | with_reducible apply fracs1 | with_reducible apply fracs2 | with_reducible apply fracs3 | with_reducible apply spans1 | with_reducible apply spans2 | (with_reducible apply NewRow.keep; with_reducible assumption) | (with_reducible apply RowAt.keep; with_reducible assumption) | assumption | (focus ((repeat (first | with_reducible assumption | (with_reducible apply RowAt.le; rotate_left; with_reducible assumption) | (with_reducible apply RowB.le; rotate_left; with_reducible assumption))); done)))) | (with_reducible apply ex_side (a := (_, _)); (focus (with_reducible apply And.intro <;> (focus ((repeat (first | with_reducible assumption | (with_reducible apply RowAt.le; rotate_left; with_reducible assumption) | (with_reducible apply RowB.le; rotate_left; with_reducible assumption))); done))))))); (all_goals (conv => whnf)))
  (all_goals (try dsimp only [Q.eta, Sn.eta, SlV.eta] at *)); (all_goals (first | exact Side.mk trivial | with_reducible exact Side.mk rfl | exact Side.mk (fun _ _ h => h) | exact Side.mk (Made.le (by assumption)) | refine Side.mk ?_ | refine Don.mk ?_ | skip))
  refine ⟨fun m s => ∃ (k : Nat) (i : Int) (wg : Nat → AV) (ww : Nat → Value), m = l.length - k ∧ i = (k : Int) ∧ k ≤ l.length ∧ (∀ j, j < k → l[j]? ≠ some 46) ∧ s = ⟨[.v (.string b), wg 0, .p 0 0, wg 1, .v (.int .i64 i), wg 2, wg 3, wg 4, wg 5, wg 6, wg 7, wg 8, wg 9, wg 10, wg 11, wg 12, wg 13, wg 14, wg 15, wg 16, wg 17, wg 18, wg 19, wg 20, wg 21, wg 22, wg 23, wg 24, wg 25, wg 26, wg 27, wg 28, wg 29, wg 30, wg 31, wg 32, wg 33, wg 34, wg 35, wg 36, wg 37, wg 38, wg 39, wg 40, wg 41, wg 42, wg 43, wg 44, wg 45, wg 46, wg 47, wg 48, wg 49, wg 50, wg 51], [([.int .i64 0, .int .i64 0, .int .i64 0, .int .i64 0], 32)], E⟩, ⟨_, 0, _, nthA [_, _, _, _, _, _, _, _, _, _, _, _, _, _, _, _, _, _, _, _, _, _, _, _, _, _, _, _, _, _, _, _, _, _, _, _, _, _, _, _, _, _, _, _, _, _, _, _, _, _, _, _], nthV [], rfl, rfl, Nat.zero_le _, fun j hj => absurd hj (Nat.not_lt_zero _), rfl⟩, ?_⟩
  rintro m s ⟨k, i, wg, ww, rfl, rfl, hk, hn, rfl⟩
  have hw1 : IntKind.i64.wrap ((k : Int) + 1) = ((k + 1 : Nat) : Int) := (wrap_in (by omega) (by omega)).trans (by omega)
  have hw2 : IntKind.i64.wrap ((k : Int) + 2) = ((k + 2 : Nat) : Int) := (wrap_in (by omega) (by omega)).trans (by omega)
  by_cases hk1 : k + 1 < l.length
  · obtain ⟨d, hd⟩ : ∃ d, l[k]? = some d := ⟨_, List.getElem?_eq_getElem (by omega)⟩
    obtain ⟨e, he⟩ : ∃ e, l[k + 1]? = some e := ⟨_, List.getElem?_eq_getElem hk1⟩
    have h6 : 0 ≤ (k : Int) ∧ b[(k : Int).toNat]? = some d := ⟨by omega, by rw [ba_get, ← hl]; exact hd⟩
    have h7 : 0 ≤ IntKind.i64.wrap ((k : Int) + 1) ∧ b[(IntKind.i64.wrap ((k : Int) + 1)).toNat]? = some e := by
      rw [hw1]
      exact ⟨by omega, by rw [ba_get, ← hl]; exact he⟩
    by_cases h46 : d = 46
    · have hf : firstD l = some k := firstD_some (by rw [hd, h46]) hk1 hn
      have hno : ¬ ((d.toNat : Int) != 46) = true := by rw [h46]; decide
      have hx1 : bl (b.extract (Int.toNat 0) (k : Int).toNat) = l.take k := by
        rw [bl, ba_cut, ← hl]
        rfl
      have hx2 : bl (b.extract (IntKind.i64.wrap ((k : Int) + 2)).toNat (b.size : Int).toNat) = l.drop (k + 2) := by
        rw [bl, ba_cut, ← hl, hw2]
        show (l.drop (k + 2)).take _ = _
        rw [List.take_of_length_le]
        rw [List.length_drop]
        show l.length - (k + 2) ≤ b.size - (k + 2)
        omega
      have hs1 : (b.extract (Int.toNat 0) (k : Int).toNat).size ≤ 1048576 := by
        have : (bl (b.extract (Int.toNat 0) (k : Int).toNat)).length ≤ 1048576 := by rw [hx1, List.length_take]; omega
        rw [ba_len]; exact this
      have hs2 : (b.extract (IntKind.i64.wrap ((k : Int) + 2)).toNat (b.size : Int).toNat).size ≤ 1048576 := by
        have : (bl (b.extract (IntKind.i64.wrap ((k : Int) + 2)).toNat (b.size : Int).toNat)).length ≤ 1048576 := by rw [hx2, List.length_drop]; omega
        rw [ba_len]; exact this
      (repeat' ((conv => whnf); (first | with_reducible apply And.intro | (with_reducible intro hh; first | (with_reducible have hx := NewRow.self hh; clear hx) | (with_reducible have hrow := Made.row hh; have hle := Made.le hh; have hmade := hh; clear hh) | (with_reducible have hrow := Fresh.rowS hh; have hle := Fresh.leS hh; have hfr := hh; clear hh) | (with_reducible have hx := Ext.self hh; clear hx) | (with_reducible have hx := SlV.self hh; clear hx) | (with_reducible have hx := Value.self hh; clear hx) | with_reducible cases hh | skip) | (with_reducible apply AllEq.mk; intro yy hq) | with_reducible apply trivial | with_reducible apply Exists.intro () | (with_reducible apply ex_side; (first | with_reducible assumption | with_reducible apply fracs1 | with_reducible apply fracs2 | with_reducible apply fracs3 | with_reducible apply spans1 | with_reducible apply spans2 | (with_reducible apply NewRow.keep; with_reducible assumption) | (with_reducible apply RowAt.keep; with_reducible assumption) | assumption | (focus ((repeat (first | with_reducible assumption | (with_reducible apply RowAt.le; rotate_left; with_reducible assumption) | (with_reducible apply RowB.le; rotate_left; with_reducible assumption))); done)))) | (with_reducible apply ex_side (a := (_, _)); (focus (with_reducible apply And.intro <;> (focus ((repeat (first | with_reducible assumption | (with_reducible apply RowAt.le; rotate_left; with_reducible assumption) | (with_reducible apply RowB.le; rotate_left; with_reducible assumption))); done))))))); (all_goals (conv => whnf)))
      (all_goals (try dsimp only [Q.eta, Sn.eta, SlV.eta] at *)); (all_goals (first | exact Side.mk trivial | with_reducible exact Side.mk rfl | exact Side.mk (fun _ _ h => h) | exact Side.mk (Made.le (by assumption)) | refine Side.mk ?_ | refine Don.mk ?_ | skip))
      all_goals try (exfalso; have := of_decide_eq_false (by assumption : decide (IntKind.i64.wrap ((k : Int) + 1) < (b.size : Int)) = false); omega)
      all_goals try (exfalso; exact hno (by assumption))
      all_goals first | exact hs1 | exact hs2 | exact ⟨by omega, by omega, by omega⟩ | (rw [hw2]; exact ⟨by omega, by omega, by omega⟩) | skip
      all_goals refine ⟨(⟨⟨_, _⟩, ⟨_, _⟩⟩, _), rfl, Keeps.trans (by assumption) (by assumption), ?_⟩
      all_goals rw [hbl]
      all_goals first
        | exact rs_end (t := true) (o1 := true) (o2 := true) hf he hx1 hx2 (by assumption) (by assumption) (by assumption)
        | exact rs_end (t := true) (o1 := true) (o2 := false) hf he hx1 hx2 (by assumption) (by assumption) (by assumption)
        | exact rs_end (t := true) (o1 := false) hf he hx1 hx2 (by assumption) (by assumption) (by assumption)
        | exact rs_end (t := false) hf he hx1 hx2 (by assumption) (by assumption) (by assumption)
    · have hno : ¬ ((d.toNat : Int) != 46) = false := by
        intro h
        exact h46 (u8_eq (d := 46) (by simpa using h))
      (repeat' ((conv => whnf); (first | with_reducible apply And.intro | (with_reducible intro hh; first | (with_reducible have hx := NewRow.self hh; clear hx) | (with_reducible have hrow := Made.row hh; have hle := Made.le hh; have hmade := hh; clear hh) | (with_reducible have hrow := Fresh.rowS hh; have hle := Fresh.leS hh; have hfr := hh; clear hh) | (with_reducible have hx := Ext.self hh; clear hx) | (with_reducible have hx := SlV.self hh; clear hx) | (with_reducible have hx := Value.self hh; clear hx) | with_reducible cases hh | skip) | (with_reducible apply AllEq.mk; intro yy hq) | with_reducible apply trivial | with_reducible apply Exists.intro () | (with_reducible apply ex_side; (first | with_reducible assumption | with_reducible apply fracs1 | with_reducible apply fracs2 | with_reducible apply fracs3 | with_reducible apply spans1 | with_reducible apply spans2 | (with_reducible apply NewRow.keep; with_reducible assumption) | (with_reducible apply RowAt.keep; with_reducible assumption) | assumption | (focus ((repeat (first | with_reducible assumption | (with_reducible apply RowAt.le; rotate_left; with_reducible assumption) | (with_reducible apply RowB.le; rotate_left; with_reducible assumption))); done)))) | (with_reducible apply ex_side (a := (_, _)); (focus (with_reducible apply And.intro <;> (focus ((repeat (first | with_reducible assumption | (with_reducible apply RowAt.le; rotate_left; with_reducible assumption) | (with_reducible apply RowB.le; rotate_left; with_reducible assumption))); done))))))); (all_goals (conv => whnf)))
      (all_goals (try dsimp only [Q.eta, Sn.eta, SlV.eta] at *)); (all_goals (first | exact Side.mk trivial | with_reducible exact Side.mk rfl | exact Side.mk (fun _ _ h => h) | exact Side.mk (Made.le (by assumption)) | refine Side.mk ?_ | refine Don.mk ?_ | skip))
      all_goals try (exfalso; have := of_decide_eq_false (by assumption : decide (IntKind.i64.wrap ((k : Int) + 1) < (b.size : Int)) = false); omega)
      all_goals try (exfalso; exact hno (by assumption))
      refine ⟨l.length - (k + 1), by omega, k + 1, _, nthA [_, _, _, _, _, _, _, _, _, _, _, _, _, _, _, _, _, _, _, _, _, _, _, _, _, _, _, _, _, _, _, _, _, _, _, _, _, _, _, _, _, _, _, _, _, _, _, _, _, _, _, _], nthV [], rfl, hw1, by omega, fun j hj => ?_, rfl⟩
      by_cases hjk : j < k
      · exact hn j hjk
      · obtain rfl : j = k := by omega
        rw [hd]
        intro h
        exact h46 (Option.some.inj h)
  · have hf : firstD l = none := firstD_none fun i hi => hn i (by omega)
    (repeat' ((conv => whnf); (first | with_reducible apply And.intro | (with_reducible intro hh; first | (with_reducible have hx := NewRow.self hh; clear hx) | (with_reducible have hrow := Made.row hh; have hle := Made.le hh; have hmade := hh; clear hh) | (with_reducible have hrow := Fresh.rowS hh; have hle := Fresh.leS hh; have hfr := hh; clear hh) | (with_reducible have hx := Ext.self hh; clear hx) | (with_reducible have hx := SlV.self hh; clear hx) | (with_reducible have hx := Value.self hh; clear hx) | with_reducible cases hh | skip) | (with_reducible apply AllEq.mk; intro yy hq) | with_reducible apply trivial | with_reducible apply Exists.intro () | (with_reducible apply ex_side; (first | with_reducible assumption | with_reducible apply fracs1 | with_reducible apply fracs2 | with_reducible apply fracs3 | with_reducible apply spans1 | with_reducible apply spans2 | (with_reducible apply NewRow.keep; with_reducible assumption) | (with_reducible apply RowAt.keep; with_reducible assumption) | assumption | (focus ((repeat (first | with_reducible assumption | (with_reducible apply RowAt.le; rotate_left; with_reducible assumption) | (with_reducible apply RowB.le; rotate_left; with_reducible assumption))); done)))) | (with_reducible apply ex_side (a := (_, _)); (focus (with_reducible apply And.intro <;> (focus ((repeat (first | with_reducible assumption | (with_reducible apply RowAt.le; rotate_left; with_reducible assumption) | (with_reducible apply RowB.le; rotate_left; with_reducible assumption))); done))))))); (all_goals (conv => whnf)))
    (all_goals (try dsimp only [Q.eta, Sn.eta, SlV.eta] at *)); (all_goals (first | exact Side.mk trivial | with_reducible exact Side.mk rfl | exact Side.mk (fun _ _ h => h) | exact Side.mk (Made.le (by assumption)) | refine Side.mk ?_ | refine Don.mk ?_ | skip))
    all_goals try (exfalso; have := of_decide_eq_true (by assumption : decide (IntKind.i64.wrap ((k : Int) + 1) < (b.size : Int)) = true); omega)
    refine ⟨(⟨⟨0, 0⟩, ⟨0, 0⟩⟩, false), rfl, Keeps.refl _, ?_, fun h => by cases h⟩
    rw [hbl]
    unfold readSV
    rw [hf]
abbrev rdSSp : Sp := .nf T1 (fun x (_ : Unit) _ => x.1.size ≤ 1048576) (fun x _ (_ : Unit) => RS (specRS (bl x.1))) (fun _ _ _ E E' => Keeps E E')
set_option maxRecDepth 100000 in
theorem srdS_ok : Sp.ok Tryd.prog 22 rdSSp := by
  refine Sp.nf_ok (T := ⟨[(42, rsSp)], []⟩) follows eqok0 ⟨enters Tryd.func42 rfl rfl, rs_ok, trivial⟩ [] Tryd.func22 rfl (by kernel_rfl) _ _ _ _ fun x l E hp => ?_
  obtain ⟨b, u⟩ := x
  dsimp only at hp
  conv => whnf
  refine ⟨(), Side.mk hp, fun y E1 hk => ?_⟩
  obtain ⟨⟨⟨p, q⟩, ⟨v, w⟩⟩, ok⟩ := y
  obtain ⟨hk, h1, h2⟩ := hk
  dsimp only at h1 h2
  (repeat' ((conv => whnf); (first | with_reducible apply And.intro | (with_reducible intro hh; first | (with_reducible have hx := NewRow.self hh; clear hx) | (with_reducible have hrow := Made.row hh; have hle := Made.le hh; have hmade := hh; clear hh) | (with_reducible have hrow := Fresh.rowS hh; have hle := Fresh.leS hh; have hfr := hh; clear hh) | (with_reducible have hx := Ext.self hh; clear hx) | (with_reducible have hx := SlV.self hh; clear hx) | (with_reducible have hx := Value.self hh; clear hx) | with_reducible cases hh | skip) | (with_reducible apply AllEq.mk; intro yy hq) | with_reducible apply trivial | with_reducible apply Exists.intro () | (with_reducible apply ex_side; (first | with_reducible assumption | with_reducible apply fracs1 | with_reducible apply fracs2 | with_reducible apply fracs3 | with_reducible apply spans1 | with_reducible apply spans2 | (with_reducible apply NewRow.keep; with_reducible assumption) | (with_reducible apply RowAt.keep; with_reducible assumption) | assumption | (focus ((repeat (first | with_reducible assumption | (with_reducible apply RowAt.le; rotate_left; with_reducible assumption) | (with_reducible apply RowB.le; rotate_left; with_reducible assumption))); done)))) | (with_reducible apply ex_side (a := (_, _)); (focus (with_reducible apply And.intro <;> (focus ((repeat (first | with_reducible assumption | (with_reducible apply RowAt.le; rotate_left; with_reducible assumption) | (with_reducible apply RowB.le; rotate_left; with_reducible assumption))); done))))))); (all_goals (conv => whnf)))
  (all_goals (try dsimp only [Q.eta, Sn.eta, SlV.eta] at *)); (all_goals (first | exact Side.mk trivial | with_reducible exact Side.mk rfl | exact Side.mk (fun _ _ h => h) | exact Side.mk (Made.le (by assumption)) | refine Side.mk ?_ | refine Don.mk ?_ | skip))
  · have h3 : (readSV (bl b)).2 = false := by rw [← h1]; simpa using hh
    rw [specRS, h3]
    exact ⟨(), rfl, hk⟩
  · have h4 : ok = true := by simpa using hh
    have h3 : (readSV (bl b)).2 = true := by rw [← h1]; exact h4
    rw [specRS, if_pos h3, ← h2 h4]
    exact ⟨(), rfl, hk⟩
abbrev rdISSp : Sp := .pf T1 (fun x => x.1.size ≤ 1048576) (fun x => RS (implRS (bl x.1)))
theorem srdIS_ok : Sp.ok Tryd.prog 22 rdISSp := sp_eqv (funext fun x => by rw [span_alike]) (Sp.pf_of_nf srdS_ok)
theorem implRS_1 {s : List UInt8} (h : ((implR (Lib.cut s [46, 46]).1).2 != 0) = true) : implRS s = (⟨⟨0, 0⟩, ⟨0, 0⟩⟩, 5) := if_pos (.inl (by simpa using h))
theorem implRS_2 {s : List UInt8} (h : ((implR (Lib.cut s [46, 46]).2.1).2 != 0) = true) : implRS s = (⟨⟨0, 0⟩, ⟨0, 0⟩⟩, 5) := if_pos (.inr (.inl (by simpa using h)))
theorem implRS_3 {s : List UInt8} (h : (!(stxt (cutS s) == s)) = true) : implRS s = (⟨⟨0, 0⟩, ⟨0, 0⟩⟩, 5) := if_pos (.inr (.inr (by simpa using h)))
theorem implRS_4 {s : List UInt8} (h1 : ((implR (Lib.cut s [46, 46]).1).2 != 0) = false) (h2 : ((implR (Lib.cut s [46, 46]).2.1).2 != 0) = false) (h3 : (!(stxt (cutS s) == s)) = false) : implRS s = (cutS s, 0) := by
  unfold implRS
  rw [if_neg]
  rintro (h | h | h)
  · exact h (by simpa using h1)
  · exact h (by simpa using h2)
  · exact h (by simpa using h3)
set_option maxHeartbeats 2000000 in
set_option maxRecDepth 100000 in
theorem irdS_ok : Sp.ok Tryd.prog 23 rdISSp := by
  refine Sp.pf_ok (T := ⟨[(40, cuttSp), (20, rdIFSp), (13, stxtSp)], []⟩) follows eqok0 ⟨enters Tryd.func40 rfl rfl, cutt_ok, enters Tryd.func20 rfl rfl, irdF_ok, enters Tryd.func13 rfl rfl, istxt_ok, trivial⟩ [] Tryd.func23 rfl (by kernel_rfl) _ _ _ fun x E hp => ?_
  obtain ⟨b, u⟩ := x
  dsimp only at hp
  have hsz : b.size = (bl b).length := ba_len b
  have hc := cut_len (bl b) [46, 46]
  have h47 : bl (⟨#[46, 46]⟩ : ByteArray) = [46, 46] := rfl
  (repeat' ((conv => whnf); (first | with_reducible apply And.intro | (with_reducible intro hh; first | (with_reducible have hx := NewRow.self hh; clear hx) | (with_reducible have hrow := Made.row hh; have hle := Made.le hh; have hmade := hh; clear hh) | (with_reducible have hrow := Fresh.rowS hh; have hle := Fresh.leS hh; have hfr := hh; clear hh) | (with_reducible have hx := Ext.self hh; clear hx) | (with_reducible have hx := SlV.self hh; clear hx) | (with_reducible have hx := Value.self hh; clear hx) | with_reducible cases hh | skip) | (with_reducible apply AllEq.mk; intro yy hq) | with_reducible apply trivial | with_reducible apply Exists.intro () | (with_reducible apply ex_side; (first | with_reducible assumption | with_reducible apply fracs1 | with_reducible apply fracs2 | with_reducible apply fracs3 | with_reducible apply spans1 | with_reducible apply spans2 | (with_reducible apply NewRow.keep; with_reducible assumption) | (with_reducible apply RowAt.keep; with_reducible assumption) | assumption | (focus ((repeat (first | with_reducible assumption | (with_reducible apply RowAt.le; rotate_left; with_reducible assumption) | (with_reducible apply RowB.le; rotate_left; with_reducible assumption))); done)))) | (with_reducible apply ex_side (a := (_, _)); (focus (with_reducible apply And.intro <;> (focus ((repeat (first | with_reducible assumption | (with_reducible apply RowAt.le; rotate_left; with_reducible assumption) | (with_reducible apply RowB.le; rotate_left; with_reducible assumption))); done))))))); (all_goals (conv => whnf)))
  (all_goals (try dsimp only [Q.eta, Sn.eta, SlV.eta] at *)); (all_goals (first | exact Side.mk trivial | with_reducible exact Side.mk rfl | exact Side.mk (fun _ _ h => h) | exact Side.mk (Made.le (by assumption)) | refine Side.mk ?_ | refine Don.mk ?_ | skip))
  all_goals try exact hp
  all_goals try rw [h47] at *
  all_goals try simp only [ba_toList, h47, bl_strB', bl_strB] at *
  all_goals try (rw [strB_size]; omega)
  all_goals first
    | exact congrArg (fun z => AV.v (RS z)) (implRS_1 (by assumption)).symm
    | exact congrArg (fun z => AV.v (RS z)) (implRS_2 (by assumption)).symm
    | exact congrArg (fun z => AV.v (RS z)) (implRS_3 (by assumption)).symm
    | exact congrArg (fun z => AV.v (RS z)) (implRS_4 (by assumption) (by assumption) (by assumption)).symm

end Go.Proofs.YtadliapkjijahaaDoor
