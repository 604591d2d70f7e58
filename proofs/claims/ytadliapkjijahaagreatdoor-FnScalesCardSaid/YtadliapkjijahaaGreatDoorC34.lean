/- Contracts of the functions that correct a scale, for all scales and lists that lie in memory; no other condition. -/
import Derived.Test.YtadliapkjijahaaGreatDoorAb
import Derived.Test.YtadliapkjijahaaGreatDoorC1
import Derived.Test.YtadliapkjijahaaGreatDoorC2
import Derived.Test.YtadliapkjijahaaGreatDoorC3
import Derived.Test.YtadliapkjijahaaGreatDoorC4
import Derived.Test.YtadliapkjijahaaGreatDoorC5
import Derived.Test.YtadliapkjijahaaGreatDoorCL
import Derived.Test.YtadliapkjijahaaGreatDoorC6
import Derived.Test.YtadliapkjijahaaGreatDoorC7
import Derived.Test.YtadliapkjijahaaGreatDoorC8
import Derived.Test.YtadliapkjijahaaGreatDoorC9
import Derived.Test.YtadliapkjijahaaGreatDoorCO
import Derived.Test.YtadliapkjijahaaGreatDoorC12
import Derived.Test.YtadliapkjijahaaGreatDoorC13
import Derived.Test.YtadliapkjijahaaGreatDoorC14
import Derived.Test.YtadliapkjijahaaGreatDoorC15
import Derived.Test.YtadliapkjijahaaGreatDoorC16
import Derived.Test.YtadliapkjijahaaGreatDoorC17
import Derived.Test.YtadliapkjijahaaGreatDoorC25
import Derived.Test.YtadliapkjijahaaGreatDoorC30
import Derived.Test.YtadliapkjijahaaGreatDoorC31
import Derived.Test.YtadliapkjijahaaGreatDoorCN
import Derived.Test.YtadliapkjijahaaGreatDoorC33
import Derived.Test.YtadliapkjijahaaGreatDoorProg
set_option linter.unusedVariables false
set_option linter.unusedSimpArgs false
namespace Go.Proofs.YtadliapkjijahaaGreatDoor
open Ab

abbrev CS1 : ArgL (Scl × SlV × Unit) := .cons sclA (.cons .slice .nil)
def subsO (l d : List Q) : List (Option Q) := List.zipWith subO l d
theorem subsO_at {l d : List Q} {x y : Q} {k : Nat} (h : l[k]? = some x) (h' : d[k]? = some y) : (subsO l d)[k]? = some (subO x y) := by unfold subsO; rw [List.getElem?_zipWith, h, h']
theorem subsO_len {l d : List Q} (h : d.length = l.length) : (subsO l d).length = l.length := by unfold subsO; simp [h]
def corO (u : Q) (l d : List Q) : Option (List Q) := accO [] (subsO l d)
def corR (u : Q) (l d : List Q) : (Q × List Q) × Int := if okC u l && allOk d then (if d.length = l.length then (match corO u l d with | none => ((Q0, []), 3) | some g => if okC u g then ((u, g), 0) else ((Q0, []), 4)) else ((Q0, []), 2)) else ((Q0, []), 1)
theorem corR_1 {u : Q} {l d : List Q} (h : (okC u l && allOk d) = false) : corR u l d = ((Q0, []), 1) := by unfold corR; rw [if_neg (by simp [h])]
theorem corR_2 {u : Q} {l d : List Q} (h : (okC u l && allOk d) = true) (h2 : d.length ≠ l.length) : corR u l d = ((Q0, []), 2) := by unfold corR; rw [if_pos h, if_neg h2]
theorem corR_3 {u : Q} {l d : List Q} (h : (okC u l && allOk d) = true) (h2 : d.length = l.length) (h3 : corO u l d = none) : corR u l d = ((Q0, []), 3) := by unfold corR; rw [if_pos h, if_pos h2, h3]
theorem corR_4 {u : Q} {l d g : List Q} (h : (okC u l && allOk d) = true) (h2 : d.length = l.length) (h3 : corO u l d = some g) (h4 : okC u g = false) : corR u l d = ((Q0, []), 4) := by unfold corR; rw [if_pos h, if_pos h2, h3]; dsimp only; rw [if_neg (by simp [h4])]
theorem corR_5 {u : Q} {l d g : List Q} (h : (okC u l && allOk d) = true) (h2 : d.length = l.length) (h3 : corO u l d = some g) (h4 : okC u g = true) : corR u l d = ((u, g), 0) := by unfold corR; rw [if_pos h, if_pos h2, h3]; dsimp only; rw [if_pos h4]
theorem cor_le (u : Q) (l d : List Q) : (corR u l d).1.2.length ≤ 60 := by
  cases h1 : (okC u l && allOk d) with
  | false => rw [corR_1 h1]; simp
  | true =>
    by_cases h2 : d.length = l.length
    · cases h3 : corO u l d with
      | none => rw [corR_3 h1 h2 h3]; simp
      | some g =>
        cases h4 : okC u g with
        | false => rw [corR_4 h1 h2 h3 h4]; simp
        | true => rw [corR_5 h1 h2 h3 h4]; exact (okC_iff h4).2.2.2.1
    · rw [corR_2 h1 h2]; simp
theorem allOk_step {d : List Q} {k : Nat} {x : Q} (h : d[k]? = some x) : allOk (d.drop k) = (okQ x && allOk (d.drop (k + 1))) := by rw [drop_at h]; rfl
theorem ne_of_bne {x y : Int} (h : (x != y) = true) : x ≠ y := by simpa using h
theorem eq_of_bne {x y : Int} (h : (x != y) = false) : x = y := by simpa using h
abbrev corSp : Sp := .nf CS1 (fun x (l : List Q × List Q) E => FracsAt x.1.errs l.1 E ∧ FracsAt x.2.1 l.2 E) (fun x l (y : SlV) => RSc (corR x.1.unit l.1 l.2).1.1 y (corR x.1.unit l.1 l.2).2) (fun x l y E E' => Side (Fresh 25 2 Q.cells y (corR x.1.unit l.1 l.2).1.2 E E'))


set_option maxHeartbeats 4000000 in
set_option maxRecDepth 100000 in
theorem cor_ok : Sp.ok Tryz.prog 32 corSp := by
  refine Sp.nf_ok (T := ⟨[(72, scaleOkVSp), (57, areSp), (51, tsubqSp)], []⟩) follows eqok0 ⟨enters Tryz.func72 rfl rfl, scaleV_ok, enters Tryz.func57 rfl rfl, are_ok, enters Tryz.func51 rfl rfl, tsubq_ok, trivial⟩ [(5, .take 0 (.take 2 (.take 3 (.take 4 (.alt 1 (.alt 5 (.take 6 (.alt 7 (.done) (.last))) (.last)) (.alt 5 (.alt 1 (.take 6 (.alt 7 (.done) (.last))) (.last)) (.last))))))), (9, .take 0 (.take 2 (.take 3 (.take 4 (.take 5 (.take 6 (.take 7 (.alt 1 (.alt 8 (.alt 9 (.alt 10 (.take 11 (.alt 12 (.done) (.last))) (.last)) (.last)) (.last)) (.alt 8 (.alt 1 (.alt 9 (.alt 10 (.take 11 (.alt 12 (.done) (.last))) (.last)) (.last)) (.alt 9 (.alt 1 (.alt 10 (.take 11 (.alt 12 (.done) (.last))) (.last)) (.last)) (.last))) (.last))))))))))] Tryz.func32 rfl (by kernel_rfl) _ _ _ _ fun x l E hp => ?_
  obtain ⟨⟨⟨a, b⟩, ⟨sa, n, c⟩⟩, ⟨sb, n', c'⟩, u⟩ := x
  obtain ⟨l, d⟩ := l
  obtain ⟨hp, hp'⟩ := hp
  dsimp only at hp hp'
  have hp0 := hp
  have hp0' := hp'
  have hat := @FracsAt.at _ _ _ hp
  have hat' := @FracsAt.at _ _ _ hp'
  obtain ⟨hn, hmax, hnone, _⟩ := hp
  obtain ⟨hn', hmax', hnone', _⟩ := hp'
  dsimp only at hn hmax hnone hat hn' hmax' hnone' hat'
  by_cases hv : (okC ⟨a, b⟩ l && allOk d) = true
  · have hv' := hv
    rw [Bool.and_eq_true] at hv'
    have hC := okC_iff hv'.1
    (repeat' ((conv => whnf); (first | with_reducible apply And.intro | (with_reducible intro hh; first | (with_reducible have hx := NewRow.self hh; clear hx) | (with_reducible have hrow := Made.row hh; have hle := Made.le hh; have hmade := hh; clear hh) | (with_reducible have hrow := Fresh.rowS hh; have hle := Fresh.leS hh; have hfr := hh; clear hh) | (with_reducible have hx := Ext.self hh; clear hx) | (with_reducible have hx := SlV.self hh; clear hx) | (with_reducible have hx := Value.self hh; clear hx) | with_reducible cases hh | skip) | (with_reducible apply AllEq.mk; intro yy hq) | with_reducible apply trivial | with_reducible apply Exists.intro () | (with_reducible apply ex_side; (first | with_reducible assumption | with_reducible apply fracs1 | with_reducible apply fracs2 | with_reducible apply fracs3 | with_reducible apply spans1 | with_reducible apply spans2 | (with_reducible apply NewRow.keep; with_reducible assumption) | (with_reducible apply RowAt.keep; with_reducible assumption) | assumption | (focus ((repeat (first | with_reducible assumption | (with_reducible apply RowAt.le; rotate_left; with_reducible assumption) | (with_reducible apply RowB.le; rotate_left; with_reducible assumption))); done)))) | (with_reducible apply ex_side (a := (_, _)); (focus (with_reducible apply And.intro <;> (focus ((repeat (first | with_reducible assumption | (with_reducible apply RowAt.le; rotate_left; with_reducible assumption) | (with_reducible apply RowB.le; rotate_left; with_reducible assumption))); done))))))); (all_goals (conv => whnf)))
    (all_goals (try dsimp only [Q.eta, Sn.eta, SlV.eta] at *)); (all_goals (first | exact Side.mk trivial | with_reducible exact Side.mk rfl | exact Side.mk (fun _ _ h => h) | exact Side.mk (Made.le (by assumption)) | refine Side.mk ?_ | refine Don.mk ?_ | skip))
    all_goals try (exfalso; rw [hv'.1] at hh; cases hh; done)
    all_goals try (exfalso; rw [hv'.2] at hh; cases hh; done)
    all_goals first
      | (have h2 : d.length ≠ l.length := by have := ne_of_bne hh; omega
         rw [corR_2 hv h2]
         exact ⟨⟨none, 0, 0⟩, rfl, Side.mk Fresh.nilRow⟩)
      | skip
    all_goals have h2 : d.length = l.length := by have := eq_of_bne hh; omega
    all_goals have hlen := subsO_len h2
    all_goals clear hh
    · refine ⟨fun m s => ∃ (k : Nat) (i : Int) (o : SlV) (g : List Q) (f : Bool) (E' : Ext) (wg : Nat → AV) (ww : Nat → Value), m = l.length - k ∧ k ≤ l.length ∧ i = (k : Int) ∧ g.length = k ∧ Grow 25 2 Q.cells E o g E' ∧ accT [] false (subsO l d) = accT g f ((subsO l d).drop k) ∧ s = ⟨[.v (ww 0), .v (.slice sb n' c'), .p 0 0, .v (ww 1), .p 1 0, .v (ww 2), .p 2 0, .p 3 0, wg 0, wg 1, .v (ww 3), .v (ww 4), .v (ww 5), .v (ww 6), .v (ww 7), .v (ww 8), .v (ww 9), .v (ww 10), .v (ww 11), .v (ww 12), .v (ww 13), .v (ww 14), .v (ww 15), .p 0 2, .v (ww 16), .v (ww 17), .v (ww 18), .v (ww 19), .v (ww 20), .p 2 0, .p 0 0, .v (ww 21), .v (ww 22), .p 0 2, .v (.slice sa n c), .v (.int .i64 n), .v (.int .i64 i), wg 2, wg 3, wg 4, wg 5, wg 6, wg 7, wg 8, wg 9, wg 10, wg 11, wg 12, wg 13, wg 14, wg 15, wg 16, wg 17, wg 18, .v (ww 23), .v (ww 24), .v (ww 25), .v (ww 26), .v (ww 27), .v (ww 28), .v (ww 29), .v (ww 30), .v (ww 31), .v (ww 32), .v (ww 33), .v (ww 34)], [([.int .i64 a, .int .i64 b, .slice sa n c], 49), ([.int .i64 0, .int .i64 0, .slice none 0 0], 49), ([.bool f], 73), ([.int .i64 a, .int .i64 b, .slice o.a o.n o.c], 49)], E'⟩, ⟨_, 0, _, ⟨none, 0, 0⟩, [], _, E, nthA [_, _, _, _, _, _, _, _, _, _, _, _, _, _, _, _, _, _, _], nthV [_, _, _, _, _, _, _, _, _, _, _, _, _, _, _, _, _, _, _, _, _, _, _, _, _, _, _, _, _, _, _, _, _, _, _], rfl, Nat.zero_le _, rfl, rfl, Grow.nil, rfl, rfl⟩, ?_⟩
      rintro m s ⟨k, i, o, g, f, E', wg, ww, rfl, hk, rfl, hgk, hg, hacc, rfl⟩
      rcases hkl : l[k]? with _ | x
      · have hge : l.length ≤ k := List.getElem?_eq_none_iff.1 hkl
        rw [accT_end (by omega)] at hacc
        obtain ⟨hW1, hW2⟩ := accT_O (subsO l d) [] false
        rw [hacc] at hW1 hW2
        dsimp only at hW1 hW2
        rw [Bool.false_or] at hW1
        have hR := hg.done
        have hrow := hR.row
        have hbad : f = true → corO ⟨a, b⟩ l d = none := fun h => by rw [h] at hW1; exact Option.isNone_iff_eq_none.1 hW1.symm
        have hgood : f = false → corO ⟨a, b⟩ l d = some g := fun h => by
          rw [h] at hW1
          cases hc : corO ⟨a, b⟩ l d with
          | none => rw [corO] at hc; rw [hc] at hW1; cases hW1
          | some c => rw [hW2 c hc]
        clear hW1 hW2
        (repeat' ((conv => whnf); (first | with_reducible apply And.intro | (with_reducible intro hh; first | (with_reducible have hx := NewRow.self hh; clear hx) | (with_reducible have hrow := Made.row hh; have hle := Made.le hh; have hmade := hh; clear hh) | (with_reducible have hrow := Fresh.rowS hh; have hle := Fresh.leS hh; have hfr := hh; clear hh) | (with_reducible have hx := Ext.self hh; clear hx) | (with_reducible have hx := SlV.self hh; clear hx) | (with_reducible have hx := Value.self hh; clear hx) | with_reducible cases hh | skip) | (with_reducible apply AllEq.mk; intro yy hq) | with_reducible apply trivial | with_reducible apply Exists.intro () | (with_reducible apply ex_side; (first | with_reducible assumption | with_reducible apply fracs1 | with_reducible apply fracs2 | with_reducible apply fracs3 | with_reducible apply spans1 | with_reducible apply spans2 | (with_reducible apply NewRow.keep; with_reducible assumption) | (with_reducible apply RowAt.keep; with_reducible assumption) | assumption | (focus ((repeat (first | with_reducible assumption | (with_reducible apply RowAt.le; rotate_left; with_reducible assumption) | (with_reducible apply RowB.le; rotate_left; with_reducible assumption))); done)))) | (with_reducible apply ex_side (a := (_, _)); (focus (with_reducible apply And.intro <;> (focus ((repeat (first | with_reducible assumption | (with_reducible apply RowAt.le; rotate_left; with_reducible assumption) | (with_reducible apply RowB.le; rotate_left; with_reducible assumption))); done))))))); (all_goals (conv => whnf)))
        (all_goals (try dsimp only [Q.eta, Sn.eta, SlV.eta] at *)); (all_goals (first | exact Side.mk trivial | with_reducible exact Side.mk rfl | exact Side.mk (fun _ _ h => h) | exact Side.mk (Made.le (by assumption)) | refine Side.mk ?_ | refine Don.mk ?_ | skip))
        all_goals try (exfalso; have := of_decide_eq_true (by assumption : decide ((k : Int) < (n : Int)) = true); omega)
        all_goals first
          | (rw [corR_3 hv h2 (hbad rfl)]; exact ⟨⟨none, 0, 0⟩, rfl, Side.mk (Fresh.noRow hR.le hR.keep)⟩)
          | (rw [corR_4 hv h2 (hgood rfl) (not_t hh)]; exact ⟨⟨none, 0, 0⟩, rfl, Side.mk (Fresh.noRow hR.le hR.keep)⟩)
          | (rw [corR_5 hv h2 (hgood rfl) (not_f hh)]; exact ⟨o, rfl, Side.mk hR⟩)
      · have hlt : k < l.length := (List.getElem?_eq_some_iff.1 hkl).1
        obtain ⟨y, hkd⟩ : ∃ y, d[k]? = some y := ⟨_, List.getElem?_eq_some_iff.2 ⟨by omega, rfl⟩⟩
        have hx := allOk_iff.1 hC.2.2.2.2.1 k x hkl
        have hy := allOk_iff.1 hv'.2 k y hkd
        have hm := subsO_at hkl hkd
        have hok : o.n = g.length := hg.done.row.1
        rw [accT_step hm] at hacc
        cases sa with
        | none => rw [hnone rfl] at hkl; cases hkl
        | some ad =>
          cases sb with
          | none => rw [hnone' rfl] at hkd; cases hkd
          | some ad' =>
            obtain ⟨h0, h1⟩ := hat rfl hkl
            have h0' := hg.le _ _ h0
            have h1' := hg.le _ _ h1
            obtain ⟨d0, d1⟩ := hat' rfl hkd
            have d0' := hg.le _ _ d0
            have d1' := hg.le _ _ d1
            (repeat' ((conv => whnf); (first | with_reducible apply And.intro | (with_reducible intro hh; first | (with_reducible have hx := NewRow.self hh; clear hx) | (with_reducible have hrow := Made.row hh; have hle := Made.le hh; have hmade := hh; clear hh) | (with_reducible have hrow := Fresh.rowS hh; have hle := Fresh.leS hh; have hfr := hh; clear hh) | (with_reducible have hx := Ext.self hh; clear hx) | (with_reducible have hx := SlV.self hh; clear hx) | (with_reducible have hx := Value.self hh; clear hx) | with_reducible cases hh | skip) | (with_reducible apply AllEq.mk; intro yy hq) | with_reducible apply trivial | with_reducible apply Exists.intro () | (with_reducible apply ex_side; (first | with_reducible assumption | with_reducible apply fracs1 | with_reducible apply fracs2 | with_reducible apply fracs3 | with_reducible apply spans1 | with_reducible apply spans2 | (with_reducible apply NewRow.keep; with_reducible assumption) | (with_reducible apply RowAt.keep; with_reducible assumption) | assumption | (focus ((repeat (first | with_reducible assumption | (with_reducible apply RowAt.le; rotate_left; with_reducible assumption) | (with_reducible apply RowB.le; rotate_left; with_reducible assumption))); done)))) | (with_reducible apply ex_side (a := (_, _)); (focus (with_reducible apply And.intro <;> (focus ((repeat (first | with_reducible assumption | (with_reducible apply RowAt.le; rotate_left; with_reducible assumption) | (with_reducible apply RowB.le; rotate_left; with_reducible assumption))); done))))))); (all_goals (conv => whnf)))
            (all_goals (try dsimp only [Q.eta, Sn.eta, SlV.eta] at *)); (all_goals (first | exact Side.mk trivial | with_reducible exact Side.mk rfl | exact Side.mk (fun _ _ h => h) | exact Side.mk (Made.le (by assumption)) | refine Side.mk ?_ | refine Don.mk ?_ | skip))
            all_goals first | exact ⟨by omega, by omega⟩ | exact ⟨hx, hy⟩ | (exfalso; have := of_decide_eq_false (by assumption : decide ((k : Int) < (n : Int)) = false); omega) | skip
            all_goals (
              rename_i X hX
              obtain ⟨x1, x2⟩ := X
              obtain ⟨s1, u1⟩ := yy
              have hs1 : s1 = (f || (subO x y).isNone) := congrArg Prod.fst hq
              rw [← hX, ← hs1] at hacc
              refine ⟨(_, _), Side.mk ⟨OwnRow.new hh hg.own, cells_new hh rfl, by simp [cellOk], by dsimp only; omega⟩, fun r E2 hpost => ?_⟩
              have hg2 := Grow.push (α := Q) (en := Q.cells) (x := ⟨x1, x2⟩) hg hh hpost
              clear hq hX hs1
              (repeat' ((conv => whnf); (first | with_reducible apply And.intro | (with_reducible intro hh; first | (with_reducible have hx := NewRow.self hh; clear hx) | (with_reducible have hrow := Made.row hh; have hle := Made.le hh; have hmade := hh; clear hh) | (with_reducible have hrow := Fresh.rowS hh; have hle := Fresh.leS hh; have hfr := hh; clear hh) | (with_reducible have hx := Ext.self hh; clear hx) | (with_reducible have hx := SlV.self hh; clear hx) | (with_reducible have hx := Value.self hh; clear hx) | with_reducible cases hh | skip) | (with_reducible apply AllEq.mk; intro yy hq) | with_reducible apply trivial | with_reducible apply Exists.intro () | (with_reducible apply ex_side; (first | with_reducible assumption | with_reducible apply fracs1 | with_reducible apply fracs2 | with_reducible apply fracs3 | with_reducible apply spans1 | with_reducible apply spans2 | (with_reducible apply NewRow.keep; with_reducible assumption) | (with_reducible apply RowAt.keep; with_reducible assumption) | assumption | (focus ((repeat (first | with_reducible assumption | (with_reducible apply RowAt.le; rotate_left; with_reducible assumption) | (with_reducible apply RowB.le; rotate_left; with_reducible assumption))); done)))) | (with_reducible apply ex_side (a := (_, _)); (focus (with_reducible apply And.intro <;> (focus ((repeat (first | with_reducible assumption | (with_reducible apply RowAt.le; rotate_left; with_reducible assumption) | (with_reducible apply RowB.le; rotate_left; with_reducible assumption))); done))))))); (all_goals (conv => whnf)))
              (all_goals (try dsimp only [Q.eta, Sn.eta, SlV.eta] at *)); (all_goals (first | exact Side.mk trivial | with_reducible exact Side.mk rfl | exact Side.mk (fun _ _ h => h) | exact Side.mk (Made.le (by assumption)) | refine Side.mk ?_ | refine Don.mk ?_ | skip))
              refine ⟨_, ?_, k + 1, _, r, _, _, E2, nthA [_, _, _, _, _, _, _, _, _, _, _, _, _, _, _, _, _, _, _], nthV [_, _, _, _, _, _, _, _, _, _, _, _, _, _, _, _, _, _, _, _, _, _, _, _, _, _, _, _, _, _, _, _, _, _, _], rfl, hlt, by rw [wrap_in (by omega) (by omega)]; rfl, by simp [hgk], hg2, hacc, rfl⟩
              omega)
    · refine ⟨fun m s => ∃ (k : Nat) (i : Int) (o : SlV) (g : List Q) (f : Bool) (E' : Ext) (wg : Nat → AV) (ww : Nat → Value), m = l.length - k ∧ k ≤ l.length ∧ i = (k : Int) ∧ g.length = k ∧ Grow 25 2 Q.cells E o g E' ∧ accT [] false (subsO l d) = accT g f ((subsO l d).drop k) ∧ s = ⟨[.v (ww 0), .v (.slice sb n' c'), .p 0 0, .v (ww 1), .p 1 0, .v (ww 2), .p 3 0, .p 2 0, wg 0, wg 1, .v (ww 3), .v (ww 4), .v (ww 5), .v (ww 6), .v (ww 7), .v (ww 8), .v (ww 9), .v (ww 10), .v (ww 11), .v (ww 12), .v (ww 13), .v (ww 14), .v (ww 15), .p 0 2, .v (ww 16), .v (ww 17), .v (ww 18), .v (ww 19), .v (ww 20), .p 3 0, .p 0 0, .v (ww 21), .v (ww 22), .p 0 2, .v (.slice sa n c), .v (.int .i64 n), .v (.int .i64 i), wg 2, wg 3, wg 4, wg 5, wg 6, wg 7, wg 8, wg 9, wg 10, wg 11, wg 12, wg 13, wg 14, wg 15, wg 16, wg 17, wg 18, .v (ww 23), .v (ww 24), .v (ww 25), .v (ww 26), .v (ww 27), .v (ww 28), .v (ww 29), .v (ww 30), .v (ww 31), .v (ww 32), .v (ww 33), .v (ww 34)], [([.int .i64 a, .int .i64 b, .slice sa n c], 49), ([.int .i64 0, .int .i64 0, .slice none 0 0], 49), ([.int .i64 a, .int .i64 b, .slice o.a o.n o.c], 49), ([.bool f], 73)], E'⟩, ⟨_, 0, _, ⟨none, 0, 0⟩, [], _, E, nthA [_, _, _, _, _, _, _, _, _, _, _, _, _, _, _, _, _, _, _], nthV [_, _, _, _, _, _, _, _, _, _, _, _, _, _, _, _, _, _, _, _, _, _, _, _, _, _, _, _, _, _, _, _, _, _, _], rfl, Nat.zero_le _, rfl, rfl, Grow.nil, rfl, rfl⟩, ?_⟩
      rintro m s ⟨k, i, o, g, f, E', wg, ww, rfl, hk, rfl, hgk, hg, hacc, rfl⟩
      rcases hkl : l[k]? with _ | x
      · have hge : l.length ≤ k := List.getElem?_eq_none_iff.1 hkl
        rw [accT_end (by omega)] at hacc
        obtain ⟨hW1, hW2⟩ := accT_O (subsO l d) [] false
        rw [hacc] at hW1 hW2
        dsimp only at hW1 hW2
        rw [Bool.false_or] at hW1
        have hR := hg.done
        have hrow := hR.row
        have hbad : f = true → corO ⟨a, b⟩ l d = none := fun h => by rw [h] at hW1; exact Option.isNone_iff_eq_none.1 hW1.symm
        have hgood : f = false → corO ⟨a, b⟩ l d = some g := fun h => by
          rw [h] at hW1
          cases hc : corO ⟨a, b⟩ l d with
          | none => rw [corO] at hc; rw [hc] at hW1; cases hW1
          | some c => rw [hW2 c hc]
        clear hW1 hW2
        (repeat' ((conv => whnf); (first | with_reducible apply And.intro | (with_reducible intro hh; first | (with_reducible have hx := NewRow.self hh; clear hx) | (with_reducible have hrow := Made.row hh; have hle := Made.le hh; have hmade := hh; clear hh) | (with_reducible have hrow := Fresh.rowS hh; have hle := Fresh.leS hh; have hfr := hh; clear hh) | (with_reducible have hx := Ext.self hh; clear hx) | (with_reducible have hx := SlV.self hh; clear hx) | (with_reducible have hx := Value.self hh; clear hx) | with_reducible cases hh | skip) | (with_reducible apply AllEq.mk; intro yy hq) | with_reducible apply trivial | with_reducible apply Exists.intro () | (with_reducible apply ex_side; (first | with_reducible assumption | with_reducible apply fracs1 | with_reducible apply fracs2 | with_reducible apply fracs3 | with_reducible apply spans1 | with_reducible apply spans2 | (with_reducible apply NewRow.keep; with_reducible assumption) | (with_reducible apply RowAt.keep; with_reducible assumption) | assumption | (focus ((repeat (first | with_reducible assumption | (with_reducible apply RowAt.le; rotate_left; with_reducible assumption) | (with_reducible apply RowB.le; rotate_left; with_reducible assumption))); done)))) | (with_reducible apply ex_side (a := (_, _)); (focus (with_reducible apply And.intro <;> (focus ((repeat (first | with_reducible assumption | (with_reducible apply RowAt.le; rotate_left; with_reducible assumption) | (with_reducible apply RowB.le; rotate_left; with_reducible assumption))); done))))))); (all_goals (conv => whnf)))
        (all_goals (try dsimp only [Q.eta, Sn.eta, SlV.eta] at *)); (all_goals (first | exact Side.mk trivial | with_reducible exact Side.mk rfl | exact Side.mk (fun _ _ h => h) | exact Side.mk (Made.le (by assumption)) | refine Side.mk ?_ | refine Don.mk ?_ | skip))
        all_goals try (exfalso; have := of_decide_eq_true (by assumption : decide ((k : Int) < (n : Int)) = true); omega)
        all_goals first
          | (rw [corR_3 hv h2 (hbad rfl)]; exact ⟨⟨none, 0, 0⟩, rfl, Side.mk (Fresh.noRow hR.le hR.keep)⟩)
          | (rw [corR_4 hv h2 (hgood rfl) (not_t hh)]; exact ⟨⟨none, 0, 0⟩, rfl, Side.mk (Fresh.noRow hR.le hR.keep)⟩)
          | (rw [corR_5 hv h2 (hgood rfl) (not_f hh)]; exact ⟨o, rfl, Side.mk hR⟩)
      · have hlt : k < l.length := (List.getElem?_eq_some_iff.1 hkl).1
        obtain ⟨y, hkd⟩ : ∃ y, d[k]? = some y := ⟨_, List.getElem?_eq_some_iff.2 ⟨by omega, rfl⟩⟩
        have hx := allOk_iff.1 hC.2.2.2.2.1 k x hkl
        have hy := allOk_iff.1 hv'.2 k y hkd
        have hm := subsO_at hkl hkd
        have hok : o.n = g.length := hg.done.row.1
        rw [accT_step hm] at hacc
        cases sa with
        | none => rw [hnone rfl] at hkl; cases hkl
        | some ad =>
          cases sb with
          | none => rw [hnone' rfl] at hkd; cases hkd
          | some ad' =>
            obtain ⟨h0, h1⟩ := hat rfl hkl
            have h0' := hg.le _ _ h0
            have h1' := hg.le _ _ h1
            obtain ⟨d0, d1⟩ := hat' rfl hkd
            have d0' := hg.le _ _ d0
            have d1' := hg.le _ _ d1
            (repeat' ((conv => whnf); (first | with_reducible apply And.intro | (with_reducible intro hh; first | (with_reducible have hx := NewRow.self hh; clear hx) | (with_reducible have hrow := Made.row hh; have hle := Made.le hh; have hmade := hh; clear hh) | (with_reducible have hrow := Fresh.rowS hh; have hle := Fresh.leS hh; have hfr := hh; clear hh) | (with_reducible have hx := Ext.self hh; clear hx) | (with_reducible have hx := SlV.self hh; clear hx) | (with_reducible have hx := Value.self hh; clear hx) | with_reducible cases hh | skip) | (with_reducible apply AllEq.mk; intro yy hq) | with_reducible apply trivial | with_reducible apply Exists.intro () | (with_reducible apply ex_side; (first | with_reducible assumption | with_reducible apply fracs1 | with_reducible apply fracs2 | with_reducible apply fracs3 | with_reducible apply spans1 | with_reducible apply spans2 | (with_reducible apply NewRow.keep; with_reducible assumption) | (with_reducible apply RowAt.keep; with_reducible assumption) | assumption | (focus ((repeat (first | with_reducible assumption | (with_reducible apply RowAt.le; rotate_left; with_reducible assumption) | (with_reducible apply RowB.le; rotate_left; with_reducible assumption))); done)))) | (with_reducible apply ex_side (a := (_, _)); (focus (with_reducible apply And.intro <;> (focus ((repeat (first | with_reducible assumption | (with_reducible apply RowAt.le; rotate_left; with_reducible assumption) | (with_reducible apply RowB.le; rotate_left; with_reducible assumption))); done))))))); (all_goals (conv => whnf)))
            (all_goals (try dsimp only [Q.eta, Sn.eta, SlV.eta] at *)); (all_goals (first | exact Side.mk trivial | with_reducible exact Side.mk rfl | exact Side.mk (fun _ _ h => h) | exact Side.mk (Made.le (by assumption)) | refine Side.mk ?_ | refine Don.mk ?_ | skip))
            all_goals first | exact ⟨by omega, by omega⟩ | exact ⟨hx, hy⟩ | (exfalso; have := of_decide_eq_false (by assumption : decide ((k : Int) < (n : Int)) = false); omega) | skip
            all_goals (
              rename_i X hX
              obtain ⟨x1, x2⟩ := X
              obtain ⟨s1, u1⟩ := yy
              have hs1 : s1 = (f || (subO x y).isNone) := congrArg Prod.fst hq
              rw [← hX, ← hs1] at hacc
              refine ⟨(_, _), Side.mk ⟨OwnRow.new hh hg.own, cells_new hh rfl, by simp [cellOk], by dsimp only; omega⟩, fun r E2 hpost => ?_⟩
              have hg2 := Grow.push (α := Q) (en := Q.cells) (x := ⟨x1, x2⟩) hg hh hpost
              clear hq hX hs1
              (repeat' ((conv => whnf); (first | with_reducible apply And.intro | (with_reducible intro hh; first | (with_reducible have hx := NewRow.self hh; clear hx) | (with_reducible have hrow := Made.row hh; have hle := Made.le hh; have hmade := hh; clear hh) | (with_reducible have hrow := Fresh.rowS hh; have hle := Fresh.leS hh; have hfr := hh; clear hh) | (with_reducible have hx := Ext.self hh; clear hx) | (with_reducible have hx := SlV.self hh; clear hx) | (with_reducible have hx := Value.self hh; clear hx) | with_reducible cases hh | skip) | (with_reducible apply AllEq.mk; intro yy hq) | with_reducible apply trivial | with_reducible apply Exists.intro () | (with_reducible apply ex_side; (first | with_reducible assumption | with_reducible apply fracs1 | with_reducible apply fracs2 | with_reducible apply fracs3 | with_reducible apply spans1 | with_reducible apply spans2 | (with_reducible apply NewRow.keep; with_reducible assumption) | (with_reducible apply RowAt.keep; with_reducible assumption) | assumption | (focus ((repeat (first | with_reducible assumption | (with_reducible apply RowAt.le; rotate_left; with_reducible assumption) | (with_reducible apply RowB.le; rotate_left; with_reducible assumption))); done)))) | (with_reducible apply ex_side (a := (_, _)); (focus (with_reducible apply And.intro <;> (focus ((repeat (first | with_reducible assumption | (with_reducible apply RowAt.le; rotate_left; with_reducible assumption) | (with_reducible apply RowB.le; rotate_left; with_reducible assumption))); done))))))); (all_goals (conv => whnf)))
              (all_goals (try dsimp only [Q.eta, Sn.eta, SlV.eta] at *)); (all_goals (first | exact Side.mk trivial | with_reducible exact Side.mk rfl | exact Side.mk (fun _ _ h => h) | exact Side.mk (Made.le (by assumption)) | refine Side.mk ?_ | refine Don.mk ?_ | skip))
              refine ⟨_, ?_, k + 1, _, r, _, _, E2, nthA [_, _, _, _, _, _, _, _, _, _, _, _, _, _, _, _, _, _, _], nthV [_, _, _, _, _, _, _, _, _, _, _, _, _, _, _, _, _, _, _, _, _, _, _, _, _, _, _, _, _, _, _, _, _, _, _], rfl, hlt, by rw [wrap_in (by omega) (by omega)]; rfl, by simp [hgk], hg2, hacc, rfl⟩
              omega)
  · have hv0 : (okC ⟨a, b⟩ l && allOk d) = false := by simpa using hv
    have hk : okC ⟨a, b⟩ l = true → allOk d = true → False := fun h1 h2 => by rw [h1, h2] at hv0; cases hv0
    (repeat' ((conv => whnf); (first | with_reducible apply And.intro | (with_reducible intro hh; first | (with_reducible have hx := NewRow.self hh; clear hx) | (with_reducible have hrow := Made.row hh; have hle := Made.le hh; have hmade := hh; clear hh) | (with_reducible have hrow := Fresh.rowS hh; have hle := Fresh.leS hh; have hfr := hh; clear hh) | (with_reducible have hx := Ext.self hh; clear hx) | (with_reducible have hx := SlV.self hh; clear hx) | (with_reducible have hx := Value.self hh; clear hx) | with_reducible cases hh | skip) | (with_reducible apply AllEq.mk; intro yy hq) | with_reducible apply trivial | with_reducible apply Exists.intro () | (with_reducible apply ex_side; (first | with_reducible assumption | with_reducible apply fracs1 | with_reducible apply fracs2 | with_reducible apply fracs3 | with_reducible apply spans1 | with_reducible apply spans2 | (with_reducible apply NewRow.keep; with_reducible assumption) | (with_reducible apply RowAt.keep; with_reducible assumption) | assumption | (focus ((repeat (first | with_reducible assumption | (with_reducible apply RowAt.le; rotate_left; with_reducible assumption) | (with_reducible apply RowB.le; rotate_left; with_reducible assumption))); done)))) | (with_reducible apply ex_side (a := (_, _)); (focus (with_reducible apply And.intro <;> (focus ((repeat (first | with_reducible assumption | (with_reducible apply RowAt.le; rotate_left; with_reducible assumption) | (with_reducible apply RowB.le; rotate_left; with_reducible assumption))); done))))))); (all_goals (conv => whnf)))
    (all_goals (try dsimp only [Q.eta, Sn.eta, SlV.eta] at *)); (all_goals (first | exact Side.mk trivial | with_reducible exact Side.mk rfl | exact Side.mk (fun _ _ h => h) | exact Side.mk (Made.le (by assumption)) | refine Side.mk ?_ | refine Don.mk ?_ | skip))
    all_goals first
      | (rw [corR_1 hv0]; exact ⟨⟨none, 0, 0⟩, rfl, Side.mk Fresh.nilRow⟩)
      | (exfalso; exact hk (not_f (by assumption)) (not_f (by assumption)))
      | trace_state

end Go.Proofs.YtadliapkjijahaaGreatDoor
