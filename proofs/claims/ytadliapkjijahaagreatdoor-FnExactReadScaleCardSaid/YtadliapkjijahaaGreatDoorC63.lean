/- Contract of the reference's function that reads scales from texts; condition: texts of a million bytes at most. (Built with what is known of the variables: GTV=.R) -/
import Derived.Test.YtadliapkjijahaaGreatDoorAb
import Derived.Test.YtadliapkjijahaaGreatDoorC1
import Derived.Test.YtadliapkjijahaaGreatDoorC2
import Derived.Test.YtadliapkjijahaaGreatDoorC3
import Derived.Test.YtadliapkjijahaaGreatDoorC4
import Derived.Test.YtadliapkjijahaaGreatDoorC5
import Derived.Test.YtadliapkjijahaaGreatDoorCL
import Derived.Test.YtadliapkjijahaaGreatDoorC6
import Derived.Test.YtadliapkjijahaaGreatDoorC7
import Derived.Test.YtadliapkjijahaaGreatDoorC8
import Derived.Test.YtadliapkjijahaaGreatDoorC9
import Derived.Test.YtadliapkjijahaaGreatDoorCO
import Derived.Test.YtadliapkjijahaaGreatDoorC10
import Derived.Test.YtadliapkjijahaaGreatDoorC12
import Derived.Test.YtadliapkjijahaaGreatDoorC14
import Derived.Test.YtadliapkjijahaaGreatDoorC15
import Derived.Test.YtadliapkjijahaaGreatDoorC24
import Derived.Test.YtadliapkjijahaaGreatDoorC25
import Derived.Test.YtadliapkjijahaaGreatDoorC30
import Derived.Test.YtadliapkjijahaaGreatDoorCN
import Derived.Test.YtadliapkjijahaaGreatDoorCK
import Derived.Test.YtadliapkjijahaaGreatDoorCG
import Derived.Test.YtadliapkjijahaaGreatDoorCF
import Derived.Test.YtadliapkjijahaaGreatDoorCJ
import Derived.Test.YtadliapkjijahaaGreatDoorCP
import Derived.Test.YtadliapkjijahaaGreatDoorCQ
import Derived.Test.YtadliapkjijahaaGreatDoorC50
import Derived.Test.YtadliapkjijahaaGreatDoorC52
import Derived.Test.YtadliapkjijahaaGreatDoorC53
import Derived.Test.YtadliapkjijahaaGreatDoorC54
import Derived.Test.YtadliapkjijahaaGreatDoorC55
import Derived.Test.YtadliapkjijahaaGreatDoorC56
import Derived.Test.YtadliapkjijahaaGreatDoorC60
import Derived.Test.YtadliapkjijahaaGreatDoorC62
import Derived.Test.YtadliapkjijahaaGreatDoorProg
set_option linter.unusedVariables false
set_option linter.unusedSimpArgs false
namespace Go.Proofs.YtadliapkjijahaaGreatDoor
open Ab

open Go.Shelf Go.RowKit Go.Lib Go.Sort
abbrev srsSp : Sp := .nf T1 (fun x (_ : Unit) _ => x.1.size ≤ 1048576) (fun x _ (y : SlV) => RScv (rsc (readC (bl x.1))).1.1 y (rsc (readC (bl x.1))).2) (fun x _ y E E' => Side (FreshO y (rsc (readC (bl x.1))).1.2 E E'))
theorem Grow.freshO {E E' : Ext} {o : SlV} {l : List Q} (h : Grow 25 2 Q.cells E o l E') : FreshO o l E E' := by
  refine ⟨h.done.row, h.keeps, ?_⟩
  rcases h.done.own with ⟨h1, _⟩ | ⟨b, h1, ⟨p, h2, h5⟩, h3, h4⟩
  · exact .inl h1
  · exact .inr ⟨b, 0, h1, ⟨p, h2, by omega⟩, h3, h4⟩
theorem readC_no {l : List UInt8} (h : rdAll (splS 32 l) = none) : readC l = none := by unfold readC; rw [h]
theorem readC_at {l : List UInt8} {u : Q} {es : List Q} (h : rdAll (splS 32 l) = some (u :: es)) : readC l = if okC u es then some (u, es) else none := by unfold readC; rw [h]
theorem rdAll_app : ∀ (a b : List (List UInt8)), rdAll (a ++ b) = (rdAll a).bind fun x => (rdAll b).map (x ++ ·)
  | [], b => by rw [List.nil_append, rdAll]; simp
  | w :: a, b => by
    rw [List.cons_append, rdAll, rdAll, rdAll_app a b]
    split
    · cases rdAll a with
      | none => rfl
      | some x => cases rdAll b with
        | none => rfl
        | some y => rfl
    · rfl
theorem rdAll_one (w : List UInt8) : rdAll [w] = if (readV w).2 then some [(readV w).1] else none := by
  rw [rdAll, rdAll]
  split <;> rfl
theorem rd_fail {ws : List (List UInt8)} {k : Nat} {w : List UInt8} (hw : ws[k]? = some w) (h : (readV w).2 = false) : rdAll ws = none := by
  obtain ⟨h1, h2⟩ := List.getElem?_eq_some_iff.1 hw
  have e : ws = ws.take k ++ (w :: ws.drop (k + 1)) := by
    conv => lhs; rw [← List.take_append_drop k ws, List.drop_eq_getElem_cons h1, h2]
  rw [e, rdAll_app]
  cases rdAll (ws.take k) with
  | none => rfl
  | some x =>
    rw [Option.bind_some, rdAll, h]
    rfl
theorem rd_next {ws : List (List UInt8)} {k : Nat} {w : List UInt8} {qs : List Q} (hw : ws[k]? = some w) (h : rdAll (ws.take k) = some qs) (h2 : (readV w).2 = true) : rdAll (ws.take (k + 1)) = some (qs ++ [(readV w).1]) := by
  rw [List.take_add_one, hw, rdAll_app, h, Option.bind_some]
  show (rdAll [w]).map (qs ++ ·) = _
  rw [rdAll_one, if_pos h2]
  rfl
theorem Grow.keep' {e : TypeId} {E0 E' E2 : Ext} {o : SlV} {l : List Q} (h : Grow e 2 Q.cells E0 o l E') (k : Keeps E' E2) : Grow e 2 Q.cells E0 o l E2 := by
  refine ⟨?_, (h.keeps.trans k).le, (h.keeps.trans k).keep, h.fresh⟩
  obtain ⟨h1, h2, h3, h4⟩ := h.own
  refine ⟨h1, h2, h3, h4.imp id fun ⟨b, g1, g2, g3⟩ => ?_⟩
  obtain ⟨k1, k2⟩ := k.keep b _ g2
  exact ⟨b, g1, k1, fun j => by rw [k2 _ rfl, g3 j]⟩

set_option maxHeartbeats 4000000 in
set_option maxRecDepth 100000 in
theorem srs_ok : Sp.ok Tryz.prog 25 srsSp := by
  refine Sp.nf_ok (T := ⟨[(67, splSp), (68, rdSp), (69, scaleOkSp)], []⟩) follows eqok0 ⟨enters Tryz.func67 rfl rfl, spl_ok, enters Tryz.func68 rfl rfl, rd_ok, enters Tryz.func69 rfl rfl, scaleOk_ok, trivial⟩ [] Tryz.func25 rfl (by kernel_rfl) _ _ _ _ fun x l E hp => ?_
  obtain ⟨b, u⟩ := x
  dsimp only at hp
  have hsz : b.size = (bl b).length := ba_len b
  conv => whnf
  refine ⟨32, Side.mk ⟨hp, rfl⟩, fun y E1 hs => ?_⟩
  have hg := hs.out
  dsimp only at hg
  obtain ⟨sa, n, c⟩ := y
  obtain ⟨ws, hws⟩ : ∃ ws, ws = splS 32 (bl b) := ⟨_, rfl⟩
  rw [← hws] at hg
  have hrow := hg.own
  rw [strC_flat, List.map_map] at hrow
  obtain ⟨g1, g2, g3, g4⟩ := hrow
  dsimp only at g1 g2 g3 g4
  rw [List.length_map] at g1
  have hn : n = ws.length := by omega
  have hwn : ws ≠ [] := by rw [hws]; exact splS_ne _ _
  have hwl : ws.length ≤ 1048577 := by rw [hws]; have := splS_count (c := 32) (bl b); omega
  have hk1 := hg.keeps
  clear hs
  (repeat' ((conv => whnf); (first | with_reducible apply And.intro | (with_reducible intro hh; first | (with_reducible have hx := NewRow.self hh; clear hx) | (with_reducible have hrow := Made.row hh; have hle := Made.le hh; have hmade := hh; clear hh) | (with_reducible have hrow := Fresh.rowS hh; have hle := Fresh.leS hh; have hfr := hh; clear hh) | (with_reducible have hx := Ext.self hh; clear hx) | (with_reducible have hx := SlV.self hh; clear hx) | (with_reducible have hx := Value.self hh; clear hx) | with_reducible cases hh | skip) | (with_reducible apply AllEq.mk; intro yy hq) | with_reducible apply trivial | with_reducible apply Exists.intro () | (with_reducible apply ex_side; (first | with_reducible assumption | with_reducible apply fracs1 | with_reducible apply fracs2 | with_reducible apply fracs3 | with_reducible apply spans1 | with_reducible apply spans2 | (with_reducible apply NewRow.keep; with_reducible assumption) | (with_reducible apply RowAt.keep; with_reducible assumption) | assumption | (focus ((repeat (first | with_reducible assumption | (with_reducible apply RowAt.le; rotate_left; with_reducible assumption) | (with_reducible apply RowB.le; rotate_left; with_reducible assumption))); done)))) | (with_reducible apply ex_side (a := (_, _)); (focus (with_reducible apply And.intro <;> (focus ((repeat (first | with_reducible assumption | (with_reducible apply RowAt.le; rotate_left; with_reducible assumption) | (with_reducible apply RowB.le; rotate_left; with_reducible assumption))); done))))))); (all_goals (conv => whnf)))
  (all_goals (try dsimp only [Q.eta, Sn.eta, SlV.eta] at *)); (all_goals (first | exact Side.mk trivial | with_reducible exact Side.mk rfl | exact Side.mk (fun _ _ h => h) | exact Side.mk (Made.le (by assumption)) | refine Side.mk ?_ | refine Don.mk ?_ | skip))
  refine ⟨fun m s => ∃ (k : Nat) (i : Int) (q : Q) (es : List Q) (o : SlV) (E' : Ext) (wg : Nat → AV) (ww : Nat → Value), m = n - k ∧ i = (k : Int) ∧ k ≤ n ∧ Grow 25 2 Q.cells E1 o es E' ∧ ((k = 0 ∧ es = [] ∧ q = ⟨0, 0⟩) ∨ (0 < k ∧ rdAll (ws.take k) = some (q :: es))) ∧ s = ⟨[wg 0, wg 1, .p 0 0, wg 2, .v (.slice sa n c), .p 1 0, .v (.int .i64 i), wg 3, wg 4, wg 5, wg 6, wg 7, wg 8, wg 9, wg 10, wg 11, wg 12, wg 13, wg 14, wg 15, wg 16, wg 17, wg 18, wg 19, wg 20, wg 21, wg 22, wg 23, wg 24, wg 25, wg 26, wg 27, wg 28, wg 29, wg 30, wg 31, wg 32, wg 33, wg 34, wg 35, wg 36, wg 37, wg 38], [([.int .i64 0, .int .i64 0, .slice none 0 0], 49), ([.int .i64 q.p, .int .i64 q.q, .slice o.a o.n o.c], 49)], E'⟩, ⟨_, 0, _, ⟨0, 0⟩, [], ⟨none, 0, 0⟩, E1, nthA [_, _, _, _, _, _, _, _, _, _, _, _, _, _, _, _, _, _, _, _, _, _, _, _, _, _, _, _, _, _, _, _, _, _, _, _, _, _, _], nthV [], rfl, rfl, Nat.zero_le _, Grow.nil, .inl ⟨rfl, rfl, rfl⟩, rfl⟩, ?_⟩
  rintro m s ⟨k, i, ⟨q1, q2⟩, es, ⟨oa, on, oc⟩, E', wg, ww, rfl, rfl, hk, hg2, hcase, rfl⟩
  have hrow2 : FracsAt ⟨oa, on, oc⟩ es E' := hg2.done.row
  rcases hlk : ws[k]? with _ | w
  · have hge := List.getElem?_eq_none_iff.1 hlk
    have hk0 : 0 < k := by
      have : ws.length ≠ 0 := fun h => hwn (List.eq_nil_of_length_eq_zero h)
      omega
    have hrd : rdAll (splS 32 (bl b)) = some (⟨q1, q2⟩ :: es) := by
      rcases hcase with ⟨h, _⟩ | ⟨_, h⟩
      · omega
      · rw [List.take_of_length_le hge] at h
        rw [← hws]; exact h
    rw [readC_at hrd]
    (repeat' ((conv => whnf); (first | with_reducible apply And.intro | (with_reducible intro hh; first | (with_reducible have hx := NewRow.self hh; clear hx) | (with_reducible have hrow := Made.row hh; have hle := Made.le hh; have hmade := hh; clear hh) | (with_reducible have hrow := Fresh.rowS hh; have hle := Fresh.leS hh; have hfr := hh; clear hh) | (with_reducible have hx := Ext.self hh; clear hx) | (with_reducible have hx := SlV.self hh; clear hx) | (with_reducible have hx := Value.self hh; clear hx) | with_reducible cases hh | skip) | (with_reducible apply AllEq.mk; intro yy hq) | with_reducible apply trivial | with_reducible apply Exists.intro () | (with_reducible apply ex_side; (first | with_reducible assumption | with_reducible apply fracs1 | with_reducible apply fracs2 | with_reducible apply fracs3 | with_reducible apply spans1 | with_reducible apply spans2 | (with_reducible apply NewRow.keep; with_reducible assumption) | (with_reducible apply RowAt.keep; with_reducible assumption) | assumption | (focus ((repeat (first | with_reducible assumption | (with_reducible apply RowAt.le; rotate_left; with_reducible assumption) | (with_reducible apply RowB.le; rotate_left; with_reducible assumption))); done)))) | (with_reducible apply ex_side (a := (_, _)); (focus (with_reducible apply And.intro <;> (focus ((repeat (first | with_reducible assumption | (with_reducible apply RowAt.le; rotate_left; with_reducible assumption) | (with_reducible apply RowB.le; rotate_left; with_reducible assumption))); done))))))); (all_goals (conv => whnf)))
    (all_goals (try dsimp only [Q.eta, Sn.eta, SlV.eta] at *)); (all_goals (first | exact Side.mk trivial | with_reducible exact Side.mk rfl | exact Side.mk (fun _ _ h => h) | exact Side.mk (Made.le (by assumption)) | refine Side.mk ?_ | refine Don.mk ?_ | skip))
    all_goals try (exfalso; have := of_decide_eq_true (by assumption : decide ((k : Int) < (n : Int)) = true); omega)
    · have h9 : ¬ okC ⟨q1, q2⟩ es = true := by simpa using hh
      rw [if_neg h9]
      exact ⟨⟨none, 0, 0⟩, rfl, Side.mk (FreshO.none (hk1.trans hg2.keeps))⟩
    · have h9 : okC ⟨q1, q2⟩ es = true := by simpa using hh
      rw [if_pos h9]
      exact ⟨⟨oa, on, oc⟩, rfl, Side.mk (Grow.freshO (hg2.before hk1))⟩
  · have hlt := (List.getElem?_eq_some_iff.1 hlk).1
    rcases g4 with ⟨_, g4, _⟩ | ⟨bb, rfl, ho, hE⟩
    · omega
    have f0 : E' ((⟨bb, 0, none⟩ : Addr).add ((k : Int).toNat * 1)) = some (.string (strB w)) := by
      refine hg2.le _ _ ?_
      have h1 := (hE k).trans (by rw [List.getElem?_map, hlk]; rfl : _ = some (Value.string (strB w)))
      rw [Ab.addr_add, Int.toNat_natCast, Nat.mul_one, Nat.zero_add]
      exact h1
    have hsw : (strB w).size ≤ 1048576 := by
      rw [strB_size]
      have := splS_len (c := 32) (s := bl b) (p := w) (by rw [← hws]; exact List.mem_of_getElem? hlk)
      omega
    have hwb : bl (strB w) = w := bl_strB w
    have hw3 : IntKind.i64.wrap ((k : Int) + 1) = ((k + 1 : Nat) : Int) := (wrap_in (by omega) (by omega)).trans (by omega)
    rcases hcase with ⟨rfl, rfl, hq0⟩ | ⟨hk0, hrd⟩
    · (repeat' ((conv => whnf); (first | with_reducible apply And.intro | (with_reducible intro hh; first | (with_reducible have hx := NewRow.self hh; clear hx) | (with_reducible have hrow := Made.row hh; have hle := Made.le hh; have hmade := hh; clear hh) | (with_reducible have hrow := Fresh.rowS hh; have hle := Fresh.leS hh; have hfr := hh; clear hh) | (with_reducible have hx := Ext.self hh; clear hx) | (with_reducible have hx := SlV.self hh; clear hx) | (with_reducible have hx := Value.self hh; clear hx) | with_reducible cases hh | skip) | (with_reducible apply AllEq.mk; intro yy hq) | with_reducible apply trivial | with_reducible apply Exists.intro () | (with_reducible apply ex_side; (first | with_reducible assumption | with_reducible apply fracs1 | with_reducible apply fracs2 | with_reducible apply fracs3 | with_reducible apply spans1 | with_reducible apply spans2 | (with_reducible apply NewRow.keep; with_reducible assumption) | (with_reducible apply RowAt.keep; with_reducible assumption) | assumption | (focus ((repeat (first | with_reducible assumption | (with_reducible apply RowAt.le; rotate_left; with_reducible assumption) | (with_reducible apply RowB.le; rotate_left; with_reducible assumption))); done)))) | (with_reducible apply ex_side (a := (_, _)); (focus (with_reducible apply And.intro <;> (focus ((repeat (first | with_reducible assumption | (with_reducible apply RowAt.le; rotate_left; with_reducible assumption) | (with_reducible apply RowB.le; rotate_left; with_reducible assumption))); done))))))); (all_goals (conv => whnf)))
      (all_goals (try dsimp only [Q.eta, Sn.eta, SlV.eta] at *)); (all_goals (first | exact Side.mk trivial | with_reducible exact Side.mk rfl | exact Side.mk (fun _ _ h => h) | exact Side.mk (Made.le (by assumption)) | refine Side.mk ?_ | refine Don.mk ?_ | skip))
      all_goals try (exfalso; have := of_decide_eq_false (by assumption : decide (((0 : Nat) : Int) < (n : Int)) = false); omega)
      all_goals try (exfalso; exact absurd (by assumption : ((((0 : Nat) : Int)) == 0) = false) (by decide))
      all_goals first | exact ⟨by omega, by omega⟩ | exact hsw | skip
      · rename_i t0 y ok E2 hke hy
        have h9 : (readV w).2 = false := by
          rw [← hwb, ← hy.1]
          simpa using hh
        rw [readC_no (by rw [← hws]; exact rd_fail hlk h9)]
        exact ⟨⟨none, 0, 0⟩, rfl, Side.mk (FreshO.none ((hk1.trans hg2.keeps).trans hke))⟩
      · rename_i t0 y ok E2 hke hy t1 t2
        have h9 : ok = true := by simpa using t1
        have h8 : (readV w).2 = true := by rw [← hwb, ← hy.1]; exact h9
        have h7 : y = (readV w).1 := by rw [← hwb]; exact hy.2 h9
        have hgk := hg2.keep' hke
        have hnx := rd_next hlk (show rdAll (ws.take 0) = some [] from rfl) h8
        rw [← h7] at hnx
        exact ⟨n - (0 + 1), by omega, 0 + 1, _, y, [], ⟨oa, on, oc⟩, E2, nthA [_, _, _, _, _, _, _, _, _, _, _, _, _, _, _, _, _, _, _, _, _, _, _, _, _, _, _, _, _, _, _, _, _, _, _, _, _, _, _], nthV [], rfl, hw3, by omega, hgk, .inr ⟨by omega, hnx⟩, rfl⟩
    · (repeat' ((conv => whnf); (first | with_reducible apply And.intro | (with_reducible intro hh; first | (with_reducible have hx := NewRow.self hh; clear hx) | (with_reducible have hrow := Made.row hh; have hle := Made.le hh; have hmade := hh; clear hh) | (with_reducible have hrow := Fresh.rowS hh; have hle := Fresh.leS hh; have hfr := hh; clear hh) | (with_reducible have hx := Ext.self hh; clear hx) | (with_reducible have hx := SlV.self hh; clear hx) | (with_reducible have hx := Value.self hh; clear hx) | with_reducible cases hh | skip) | (with_reducible apply AllEq.mk; intro yy hq) | with_reducible apply trivial | with_reducible apply Exists.intro () | (with_reducible apply ex_side; (first | with_reducible assumption | with_reducible apply fracs1 | with_reducible apply fracs2 | with_reducible apply fracs3 | with_reducible apply spans1 | with_reducible apply spans2 | (with_reducible apply NewRow.keep; with_reducible assumption) | (with_reducible apply RowAt.keep; with_reducible assumption) | assumption | (focus ((repeat (first | with_reducible assumption | (with_reducible apply RowAt.le; rotate_left; with_reducible assumption) | (with_reducible apply RowB.le; rotate_left; with_reducible assumption))); done)))) | (with_reducible apply ex_side (a := (_, _)); (focus (with_reducible apply And.intro <;> (focus ((repeat (first | with_reducible assumption | (with_reducible apply RowAt.le; rotate_left; with_reducible assumption) | (with_reducible apply RowB.le; rotate_left; with_reducible assumption))); done))))))); (all_goals (conv => whnf)))
      (all_goals (try dsimp only [Q.eta, Sn.eta, SlV.eta] at *)); (all_goals (first | exact Side.mk trivial | with_reducible exact Side.mk rfl | exact Side.mk (fun _ _ h => h) | exact Side.mk (Made.le (by assumption)) | refine Side.mk ?_ | refine Don.mk ?_ | skip))
      all_goals try (exfalso; have := of_decide_eq_false (by assumption : decide ((k : Int) < (n : Int)) = false); omega)
      all_goals try (exfalso; have h9 := (by assumption : ((k : Int) == 0) = true); simp at h9; omega)
      all_goals first | exact ⟨by omega, by omega⟩ | exact hsw | skip
      · rename_i t0 y ok E2 hke hy
        have h9 : (readV w).2 = false := by
          rw [← hwb, ← hy.1]
          simpa using hh
        rw [readC_no (by rw [← hws]; exact rd_fail hlk h9)]
        exact ⟨⟨none, 0, 0⟩, rfl, Side.mk (FreshO.none ((hk1.trans hg2.keeps).trans hke))⟩
      · rename_i t0 y ok E2 hke hy t1 t2
        have h9 : ok = true := by simpa using t1
        have h8 : (readV w).2 = true := by rw [← hwb, ← hy.1]; exact h9
        have h7 : y = (readV w).1 := by rw [← hwb]; exact hy.2 h9
        have hgk := hg2.keep' hke
        have hnx := rd_next hlk hrd h8
        rw [← h7] at hnx
        have hlen := congrArg List.length (rdAll_back hrd).1
        rw [List.length_take, List.length_map, List.length_cons] at hlen
        have hon : on = es.length := by have h1 := hrow2.1; dsimp only at h1; exact h1
        refine ⟨(es.flatMap Q.cells, y.cells), Side.mk ⟨OwnRow.new hh hgk.own, cells_new hh rfl, by simp [Q.cells, cellOk], by dsimp only; omega⟩, fun r E3 hpost => ?_⟩
        have hg3 := Grow.push (x := y) hgk hh hpost
        obtain ⟨ra, rn, rc⟩ := r
        (repeat' ((conv => whnf); (first | with_reducible apply And.intro | (with_reducible intro hh; first | (with_reducible have hx := NewRow.self hh; clear hx) | (with_reducible have hrow := Made.row hh; have hle := Made.le hh; have hmade := hh; clear hh) | (with_reducible have hrow := Fresh.rowS hh; have hle := Fresh.leS hh; have hfr := hh; clear hh) | (with_reducible have hx := Ext.self hh; clear hx) | (with_reducible have hx := SlV.self hh; clear hx) | (with_reducible have hx := Value.self hh; clear hx) | with_reducible cases hh | skip) | (with_reducible apply AllEq.mk; intro yy hq) | with_reducible apply trivial | with_reducible apply Exists.intro () | (with_reducible apply ex_side; (first | with_reducible assumption | with_reducible apply fracs1 | with_reducible apply fracs2 | with_reducible apply fracs3 | with_reducible apply spans1 | with_reducible apply spans2 | (with_reducible apply NewRow.keep; with_reducible assumption) | (with_reducible apply RowAt.keep; with_reducible assumption) | assumption | (focus ((repeat (first | with_reducible assumption | (with_reducible apply RowAt.le; rotate_left; with_reducible assumption) | (with_reducible apply RowB.le; rotate_left; with_reducible assumption))); done)))) | (with_reducible apply ex_side (a := (_, _)); (focus (with_reducible apply And.intro <;> (focus ((repeat (first | with_reducible assumption | (with_reducible apply RowAt.le; rotate_left; with_reducible assumption) | (with_reducible apply RowB.le; rotate_left; with_reducible assumption))); done))))))); (all_goals (conv => whnf)))
        exact ⟨n - (k + 1), by omega, k + 1, _, ⟨q1, q2⟩, es ++ [y], ⟨ra, rn, rc⟩, E3, nthA [_, _, _, _, _, _, _, _, _, _, _, _, _, _, _, _, _, _, _, _, _, _, _, _, _, _, _, _, _, _, _, _, _, _, _, _, _, _, _], nthV [], rfl, hw3, by omega, hg3, .inr ⟨by omega, hnx⟩, rfl⟩

end Go.Proofs.YtadliapkjijahaaGreatDoor
