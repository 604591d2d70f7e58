/- Contracts of the program's functions that read scales from texts; condition: texts of a million bytes at most. (Built with what is known of the variables: GTV=.R) -/
import Derived.Test.YtadliapkjijahaaGreatDoorAb
import Derived.Test.YtadliapkjijahaaGreatDoorC1
import Derived.Test.YtadliapkjijahaaGreatDoorC2
import Derived.Test.YtadliapkjijahaaGreatDoorC3
import Derived.Test.YtadliapkjijahaaGreatDoorC4
import Derived.Test.YtadliapkjijahaaGreatDoorC5
import Derived.Test.YtadliapkjijahaaGreatDoorCL
import Derived.Test.YtadliapkjijahaaGreatDoorC6
import Derived.Test.YtadliapkjijahaaGreatDoorC7
import Derived.Test.YtadliapkjijahaaGreatDoorC8
import Derived.Test.YtadliapkjijahaaGreatDoorC9
import Derived.Test.YtadliapkjijahaaGreatDoorCO
import Derived.Test.YtadliapkjijahaaGreatDoorC10
import Derived.Test.YtadliapkjijahaaGreatDoorC12
import Derived.Test.YtadliapkjijahaaGreatDoorC14
import Derived.Test.YtadliapkjijahaaGreatDoorC15
import Derived.Test.YtadliapkjijahaaGreatDoorC24
import Derived.Test.YtadliapkjijahaaGreatDoorC25
import Derived.Test.YtadliapkjijahaaGreatDoorC30
import Derived.Test.YtadliapkjijahaaGreatDoorCN
import Derived.Test.YtadliapkjijahaaGreatDoorCK
import Derived.Test.YtadliapkjijahaaGreatDoorCG
import Derived.Test.YtadliapkjijahaaGreatDoorCF
import Derived.Test.YtadliapkjijahaaGreatDoorCJ
import Derived.Test.YtadliapkjijahaaGreatDoorCP
import Derived.Test.YtadliapkjijahaaGreatDoorCQ
import Derived.Test.YtadliapkjijahaaGreatDoorC50
import Derived.Test.YtadliapkjijahaaGreatDoorC52
import Derived.Test.YtadliapkjijahaaGreatDoorC53
import Derived.Test.YtadliapkjijahaaGreatDoorC54
import Derived.Test.YtadliapkjijahaaGreatDoorC55
import Derived.Test.YtadliapkjijahaaGreatDoorC56
import Derived.Test.YtadliapkjijahaaGreatDoorC60
import Derived.Test.YtadliapkjijahaaGreatDoorProg
set_option linter.unusedVariables false
set_option linter.unusedSimpArgs false
namespace Go.Proofs.YtadliapkjijahaaGreatDoor
open Ab

open Go.Shelf Go.RowKit Go.Lib Go.Sort
theorem own_strs (xs : List ByteArray) {E : Ext} {e : TypeId} (r : NewRow E (xs.map Value.string) e) (hl : xs.length ≤ maxLen) : OwnRow r.to e 1 ⟨some ⟨r.b, 0, none⟩, xs.length, xs.length⟩ (xs.flatMap strC) := by
  rw [strC_flat]
  exact ⟨by simp, Nat.le_refl _, hl, .inr ⟨r.b, rfl, by rw [new_own]; simp, fun j => r.at_ j⟩⟩
theorem Grow.strs {E : Ext} {e : TypeId} (xs : List ByteArray) (r : NewRow E (xs.map Value.string) e) (hl : xs.length ≤ maxLen) : Grow e 1 strC E ⟨some ⟨r.b, 0, none⟩, xs.length, xs.length⟩ xs r.to :=
  ⟨own_strs xs r hl, r.le, (Keeps.new r).keep, fun a ha => by cases ha; exact ⟨r.fresho, r.fresh⟩⟩
theorem splS_count {c : UInt8} : ∀ s : List UInt8, (splS c s).length ≤ s.length + 1
  | [] => by rw [splS]; simp
  | x :: r => by
    have ih := splS_count (c := c) r
    rw [splS]
    split
    · rw [List.length_cons, List.length_cons]; omega
    · cases hs : splS c r with
      | nil => simp
      | cons y t => rw [hs] at ih; simp at ih ⊢; omega
abbrev spliSp : Sp := .nf TT (fun x (_ : Unit) _ => x.1.size ≤ 1048576 ∧ x.2.1 = ⟨#[32]⟩) (fun _ _ (y : SlV) => SlV.v y) (fun x _ y E E' => Side (Grow 9 1 strC E y ((splS 32 (bl x.1)).map strB) E'))
theorem spli_ok : Sp.ok Tryz.prog 70 spliSp := by
  intro bs m E K hk w β vs hR hl hv
  simp only [Sp.nf] at hk
  split at hk
  · rename_i us hus
    split at hk
    · rename_i x hx
      obtain ⟨_, hp, hk⟩ := hk
      obtain ⟨hp, hsep⟩ := hp.out
      have he := TT.ok hx
      have hb' := plains_eq hus
      subst hb'
      have hvs := vs_of hl hv
      subst hvs
      obtain ⟨s, sep, u⟩ := x
      dsimp only at hp hsep
      subst hsep
      have hus' : us.toArray = #[.string s, .string ⟨#[32]⟩] := by rw [he]; rfl
      rw [hus']
      obtain ⟨cs, hc, mm, hm⟩ := glob_cell hR.holds (b := 0) (List.mem_cons_of_mem _ (List.mem_cons_self ..))
      have hcon := Any.strings_Split splF (by kernel_rfl) s ⟨#[32]⟩ mm w (by omega) ((hc 0).trans hm) (Nat.le_refl _)
      refine Calls.mono (show Calls Tryz.prog 70 _ w _ from hcon) ?_
      rintro e w' ⟨rfl, rfl⟩
      rw [split_len, split_lib _ s rfl]
      have hlen : ((splS 32 (bl s)).map strB).length ≤ maxLen := by
        have h1 := splS_count (c := 32) (bl s)
        have h2 : s.size = (bl s).length := ba_len s
        rw [List.length_map]
        unfold maxLen
        omega
      obtain ⟨r, hr, hR'⟩ := hR.newRow (((splS 32 (bl s)).map strB).map Value.string) 9
      have hg := Grow.strs ((splS 32 (bl s)).map strB) r hlen
      rw [List.length_map, hr] at hg
      exact ⟨.v (.slice (some ⟨w.heap.size, 0, none⟩) (splS 32 (bl s)).length (splS 32 (bl s)).length), m, r.to, β, _, rfl, rfl, hR', hk _ _ (Side.mk hg)⟩
    · cases hk
  · cases hk
def qOf (w : ByteArray) : Q := (implR (bl w)).1
abbrev rfsSp : Sp := .nf FS (fun x (xs : List ByteArray) E => OwnRow E 9 1 x.1 (xs.flatMap strC) ∧ xs.length ≤ 1048577 ∧ ∀ s ∈ xs, s.size ≤ 1048576) (fun _ _ (y : SlV) => SlV.v y) (fun _ xs y E E' => Side (Grow 25 2 Q.cells E y (xs.map qOf) E'))

set_option maxHeartbeats 2000000 in
set_option maxRecDepth 100000 in
theorem rfs_ok : Sp.ok Tryz.prog 71 rfsSp := by
  refine Sp.nf_ok (T := ⟨[(46, rdIFSp)], []⟩) follows eqok0 ⟨enters Tryz.func46 rfl rfl, irdF_ok, trivial⟩ [] Tryz.func71 rfl (by kernel_rfl) _ _ _ _ fun x xs E hp => ?_
  obtain ⟨⟨sa, n, c⟩, u⟩ := x
  obtain ⟨hrow, hx, hsz⟩ := hp
  rw [strC_flat] at hrow
  obtain ⟨g1, g2, g3, g4⟩ := hrow
  dsimp only at g1 g2 g3 g4
  rw [List.length_map] at g1
  have hn : n = xs.length := by omega
  (repeat' ((conv => whnf); (first | with_reducible apply And.intro | (with_reducible intro hh; first | (with_reducible have hx := NewRow.self hh; clear hx) | (with_reducible have hrow := Made.row hh; have hle := Made.le hh; have hmade := hh; clear hh) | (with_reducible have hrow := Fresh.rowS hh; have hle := Fresh.leS hh; have hfr := hh; clear hh) | (with_reducible have hx := Ext.self hh; clear hx) | (with_reducible have hx := SlV.self hh; clear hx) | (with_reducible have hx := Value.self hh; clear hx) | with_reducible cases hh | skip) | (with_reducible apply AllEq.mk; intro yy hq) | with_reducible apply trivial | with_reducible apply Exists.intro () | (with_reducible apply ex_side; (first | with_reducible assumption | with_reducible apply fracs1 | with_reducible apply fracs2 | with_reducible apply fracs3 | with_reducible apply spans1 | with_reducible apply spans2 | (with_reducible apply NewRow.keep; with_reducible assumption) | (with_reducible apply RowAt.keep; with_reducible assumption) | assumption | (focus ((repeat (first | with_reducible assumption | (with_reducible apply RowAt.le; rotate_left; with_reducible assumption) | (with_reducible apply RowB.le; rotate_left; with_reducible assumption))); done)))) | (with_reducible apply ex_side (a := (_, _)); (focus (with_reducible apply And.intro <;> (focus ((repeat (first | with_reducible assumption | (with_reducible apply RowAt.le; rotate_left; with_reducible assumption) | (with_reducible apply RowB.le; rotate_left; with_reducible assumption))); done))))))); (all_goals (conv => whnf)))
  (all_goals (try dsimp only [Q.eta, Sn.eta, SlV.eta] at *)); (all_goals (first | exact Side.mk trivial | with_reducible exact Side.mk rfl | exact Side.mk (fun _ _ h => h) | exact Side.mk (Made.le (by assumption)) | refine Side.mk ?_ | refine Don.mk ?_ | skip))
  have h0 := Grow.fresh0 (c := 2) (en := Q.cells) hh
  revert h0
  generalize hh.b = b0
  generalize hh.to = E0
  intro h0
  clear hh
  refine ⟨fun m s => ∃ (k : Nat) (i : Int) (o : SlV) (E1 : Ext) (wg : Nat → AV) (ww : Nat → Value), m = n - k ∧ i = (k : Int) ∧ k ≤ n ∧ Grow 25 2 Q.cells E o ((xs.take k).map qOf) E1 ∧ s = ⟨[wg 0, wg 1, wg 2, .v (.slice o.a o.n o.c), wg 3, wg 4, wg 5, wg 6, wg 7, .v (.slice sa n c), .v (.int .i64 (n : Int)), .v (.int .i64 i), wg 8, wg 9, wg 10, wg 11, wg 12, wg 13, wg 14, wg 15, wg 16, wg 17, wg 18, wg 19, wg 20, wg 21], [], E1⟩, ⟨_, 0, _, ⟨some ⟨b0, 0, none⟩, 0, 0⟩, E0, nthA [_, _, _, _, _, _, _, _, _, _, _, _, _, _, _, _, _, _, _, _, _, _], nthV [], rfl, rfl, Nat.zero_le _, h0, rfl⟩, ?_⟩
  clear h0
  rintro m s ⟨k, i, ⟨oa, on, oc⟩, E1, wg, ww, rfl, rfl, hk, hg, rfl⟩
  rcases hlk : xs[k]? with _ | w
  · have hge := List.getElem?_eq_none_iff.1 hlk
    rw [List.take_of_length_le hge] at hg
    (repeat' ((conv => whnf); (first | with_reducible apply And.intro | (with_reducible intro hh; first | (with_reducible have hx := NewRow.self hh; clear hx) | (with_reducible have hrow := Made.row hh; have hle := Made.le hh; have hmade := hh; clear hh) | (with_reducible have hrow := Fresh.rowS hh; have hle := Fresh.leS hh; have hfr := hh; clear hh) | (with_reducible have hx := Ext.self hh; clear hx) | (with_reducible have hx := SlV.self hh; clear hx) | (with_reducible have hx := Value.self hh; clear hx) | with_reducible cases hh | skip) | (with_reducible apply AllEq.mk; intro yy hq) | with_reducible apply trivial | with_reducible apply Exists.intro () | (with_reducible apply ex_side; (first | with_reducible assumption | with_reducible apply fracs1 | with_reducible apply fracs2 | with_reducible apply fracs3 | with_reducible apply spans1 | with_reducible apply spans2 | (with_reducible apply NewRow.keep; with_reducible assumption) | (with_reducible apply RowAt.keep; with_reducible assumption) | assumption | (focus ((repeat (first | with_reducible assumption | (with_reducible apply RowAt.le; rotate_left; with_reducible assumption) | (with_reducible apply RowB.le; rotate_left; with_reducible assumption))); done)))) | (with_reducible apply ex_side (a := (_, _)); (focus (with_reducible apply And.intro <;> (focus ((repeat (first | with_reducible assumption | (with_reducible apply RowAt.le; rotate_left; with_reducible assumption) | (with_reducible apply RowB.le; rotate_left; with_reducible assumption))); done))))))); (all_goals (conv => whnf)))
    (all_goals (try dsimp only [Q.eta, Sn.eta, SlV.eta] at *)); (all_goals (first | exact Side.mk trivial | with_reducible exact Side.mk rfl | exact Side.mk (fun _ _ h => h) | exact Side.mk (Made.le (by assumption)) | refine Side.mk ?_ | refine Don.mk ?_ | skip))
    all_goals try (exfalso; have := of_decide_eq_true (by assumption : decide ((k : Int) < (n : Int)) = true); omega)
    exact ⟨⟨oa, on, oc⟩, rfl, Side.mk hg⟩
  · have hlt := (List.getElem?_eq_some_iff.1 hlk).1
    have hws := hsz w (List.mem_of_getElem? hlk)
    rcases g4 with ⟨_, g4, _⟩ | ⟨bb, rfl, ho, hE⟩
    · omega
    have f0 : E1 ((⟨bb, 0, none⟩ : Addr).add ((k : Int).toNat * 1)) = some (.string w) := by
      refine hg.le _ _ ?_
      have h1 := (hE k).trans (by rw [List.getElem?_map, hlk]; rfl : _ = some (Value.string w))
      rw [Ab.addr_add, Int.toNat_natCast, Nat.mul_one, Nat.zero_add]
      exact h1
    have hon : on = k := by
      have h1 := hg.done.row.1
      rw [List.length_map, List.length_take] at h1
      dsimp only at h1
      omega
    (repeat' ((conv => whnf); (first | with_reducible apply And.intro | (with_reducible intro hh; first | (with_reducible have hx := NewRow.self hh; clear hx) | (with_reducible have hrow := Made.row hh; have hle := Made.le hh; have hmade := hh; clear hh) | (with_reducible have hrow := Fresh.rowS hh; have hle := Fresh.leS hh; have hfr := hh; clear hh) | (with_reducible have hx := Ext.self hh; clear hx) | (with_reducible have hx := SlV.self hh; clear hx) | (with_reducible have hx := Value.self hh; clear hx) | with_reducible cases hh | skip) | (with_reducible apply AllEq.mk; intro yy hq) | with_reducible apply trivial | with_reducible apply Exists.intro () | (with_reducible apply ex_side; (first | with_reducible assumption | with_reducible apply fracs1 | with_reducible apply fracs2 | with_reducible apply fracs3 | with_reducible apply spans1 | with_reducible apply spans2 | (with_reducible apply NewRow.keep; with_reducible assumption) | (with_reducible apply RowAt.keep; with_reducible assumption) | assumption | (focus ((repeat (first | with_reducible assumption | (with_reducible apply RowAt.le; rotate_left; with_reducible assumption) | (with_reducible apply RowB.le; rotate_left; with_reducible assumption))); done)))) | (with_reducible apply ex_side (a := (_, _)); (focus (with_reducible apply And.intro <;> (focus ((repeat (first | with_reducible assumption | (with_reducible apply RowAt.le; rotate_left; with_reducible assumption) | (with_reducible apply RowB.le; rotate_left; with_reducible assumption))); done))))))); (all_goals (conv => whnf)))
    (all_goals (try dsimp only [Q.eta, Sn.eta, SlV.eta] at *)); (all_goals (first | exact Side.mk trivial | with_reducible exact Side.mk rfl | exact Side.mk (fun _ _ h => h) | exact Side.mk (Made.le (by assumption)) | refine Side.mk ?_ | refine Don.mk ?_ | skip))
    all_goals try (exfalso; have := of_decide_eq_false (by assumption : decide ((k : Int) < (n : Int)) = false); omega)
    all_goals first | exact ⟨by omega, by omega⟩ | exact hws | skip
    have hpu : (xs.take (k + 1)).map qOf = (xs.take k).map qOf ++ [qOf w] := by rw [List.take_add_one, hlk, List.map_append]; rfl
    refine ⟨(((xs.take k).map qOf).flatMap Q.cells, (qOf w).cells), Side.mk ⟨OwnRow.new hh hg.own, cells_new hh rfl, by simp [Q.cells, cellOk], by dsimp only; omega⟩, fun r E2 hpost => ?_⟩
    have hg2 := Grow.push (x := qOf w) hg hh hpost
    rw [← hpu] at hg2
    (repeat' ((conv => whnf); (first | with_reducible apply And.intro | (with_reducible intro hh; first | (with_reducible have hx := NewRow.self hh; clear hx) | (with_reducible have hrow := Made.row hh; have hle := Made.le hh; have hmade := hh; clear hh) | (with_reducible have hrow := Fresh.rowS hh; have hle := Fresh.leS hh; have hfr := hh; clear hh) | (with_reducible have hx := Ext.self hh; clear hx) | (with_reducible have hx := SlV.self hh; clear hx) | (with_reducible have hx := Value.self hh; clear hx) | with_reducible cases hh | skip) | (with_reducible apply AllEq.mk; intro yy hq) | with_reducible apply trivial | with_reducible apply Exists.intro () | (with_reducible apply ex_side; (first | with_reducible assumption | with_reducible apply fracs1 | with_reducible apply fracs2 | with_reducible apply fracs3 | with_reducible apply spans1 | with_reducible apply spans2 | (with_reducible apply NewRow.keep; with_reducible assumption) | (with_reducible apply RowAt.keep; with_reducible assumption) | assumption | (focus ((repeat (first | with_reducible assumption | (with_reducible apply RowAt.le; rotate_left; with_reducible assumption) | (with_reducible apply RowB.le; rotate_left; with_reducible assumption))); done)))) | (with_reducible apply ex_side (a := (_, _)); (focus (with_reducible apply And.intro <;> (focus ((repeat (first | with_reducible assumption | (with_reducible apply RowAt.le; rotate_left; with_reducible assumption) | (with_reducible apply RowB.le; rotate_left; with_reducible assumption))); done))))))); (all_goals (conv => whnf)))
    (all_goals (try dsimp only [Q.eta, Sn.eta, SlV.eta] at *)); (all_goals (first | exact Side.mk trivial | with_reducible exact Side.mk rfl | exact Side.mk (fun _ _ h => h) | exact Side.mk (Made.le (by assumption)) | refine Side.mk ?_ | refine Don.mk ?_ | skip))
    refine ⟨_, ?_, k + 1, _, r, E2, nthA [_, _, _, _, _, _, _, _, _, _, _, _, _, _, _, _, _, _, _, _, _, _], nthV [], rfl, ?_, by omega, hg2, rfl⟩
    · omega
    · exact (wrap_in (by omega) (by omega)).trans (by omega)
/-! scales -/
structure FreshO (y : SlV) (l : List Q) (E E' : Ext) : Prop where
  row : FracsAt y l E'
  keeps : Keeps E E'
  own : y.n = 0 ∨ ∃ b o, y.a = some ⟨b, o, none⟩ ∧ (∃ p, E'.own b = some p ∧ o + y.n * 2 ≤ p.1) ∧ E.own b = none ∧ ∀ a v, E a = some v → a.block ≠ b
theorem FreshO.none {E E' : Ext} (h : Keeps E E') : FreshO ⟨none, 0, 0⟩ [] E E' := ⟨⟨rfl, Nat.zero_le _, fun _ => rfl, fun a h => by cases h⟩, h, .inl rfl⟩
def rsc (o : Option (Q × List Q)) : (Q × List Q) × Int := match o with
  | some p => (p, 0)
  | none => ((⟨0, 0⟩, []), 5)
abbrev RScv (u : Q) (y : SlV) (c : Int) : Value := .tuple #[Scl.v ⟨u, y⟩, .int .i64 c]
abbrev irsSp : Sp := .nf T1 (fun x (_ : Unit) _ => x.1.size ≤ 1048576) (fun x _ (y : SlV) => RScv (rsc (implC (bl x.1))).1.1 y (rsc (implC (bl x.1))).2) (fun x _ y E E' => Side (FreshO y (rsc (implC (bl x.1))).1.2 E E'))
theorem qOf_strB (l : List UInt8) : qOf (strB l) = (implR l).1 := by unfold qOf; rw [bl_strB]
theorem implC_len {l : List UInt8} (h : 61 < (splS 32 l).length) : implC l = none := if_pos h
theorem implC_at {l : List UInt8} {u : Q} {es : List Q} (h : ¬ 61 < (splS 32 l).length) (hm : (splS 32 l).map (fun w => (implR w).1) = u :: es) : implC l = if okC u es = true ∧ ctxt u es = l then some (u, es) else none := by
  unfold implC
  rw [if_neg h, hm]
set_option maxHeartbeats 4000000 in
set_option maxRecDepth 100000 in
theorem irs_ok : Sp.ok Tryz.prog 26 irsSp := by
  refine Sp.nf_ok (T := ⟨[(70, spliSp), (71, rfsSp), (72, scaleOkVSp), (31, ctxtSp)], []⟩) follows eqok0 ⟨enters Tryz.func70 rfl rfl, spli_ok, enters Tryz.func71 rfl rfl, rfs_ok, enters Tryz.func72 rfl rfl, scaleV_ok, enters Tryz.func31 rfl rfl, ictxt_ok, trivial⟩ [(5, .take 0 (.take 1 (.take 2 (.take 3 (.take 4 (.take 5 (.alt 6 (.alt 7 (.done) (.last)) (.last))))))))] Tryz.func26 rfl (by kernel_rfl) _ _ _ _ fun x l E hp => ?_
  obtain ⟨b, u⟩ := x
  dsimp only at hp
  have hsz : b.size = (bl b).length := ba_len b
  conv => whnf
  refine ⟨(), Side.mk ⟨hp, rfl⟩, fun y E1 hs => ?_⟩
  have hg := hs.out
  dsimp only at hg
  obtain ⟨ya, yn, yc⟩ := y
  have hyn : yn = (splS 32 (bl b)).length := by
    have h1 := hg.own.1
    rw [strC_flat, List.length_map, List.length_map] at h1
    dsimp only at h1
    omega
  clear hs
  by_cases h61 : 61 < (splS 32 (bl b)).length
  · rw [implC_len h61]
    (repeat' ((conv => whnf); (first | with_reducible apply And.intro | (with_reducible intro hh; first | (with_reducible have hx := NewRow.self hh; clear hx) | (with_reducible have hrow := Made.row hh; have hle := Made.le hh; have hmade := hh; clear hh) | (with_reducible have hrow := Fresh.rowS hh; have hle := Fresh.leS hh; have hfr := hh; clear hh) | (with_reducible have hx := Ext.self hh; clear hx) | (with_reducible have hx := SlV.self hh; clear hx) | (with_reducible have hx := Value.self hh; clear hx) | with_reducible cases hh | skip) | (with_reducible apply AllEq.mk; intro yy hq) | with_reducible apply trivial | with_reducible apply Exists.intro () | (with_reducible apply ex_side; (first | with_reducible assumption | with_reducible apply fracs1 | with_reducible apply fracs2 | with_reducible apply fracs3 | with_reducible apply spans1 | with_reducible apply spans2 | (with_reducible apply NewRow.keep; with_reducible assumption) | (with_reducible apply RowAt.keep; with_reducible assumption) | assumption | (focus ((repeat (first | with_reducible assumption | (with_reducible apply RowAt.le; rotate_left; with_reducible assumption) | (with_reducible apply RowB.le; rotate_left; with_reducible assumption))); done)))) | (with_reducible apply ex_side (a := (_, _)); (focus (with_reducible apply And.intro <;> (focus ((repeat (first | with_reducible assumption | (with_reducible apply RowAt.le; rotate_left; with_reducible assumption) | (with_reducible apply RowB.le; rotate_left; with_reducible assumption))); done))))))); (all_goals (conv => whnf)))
    (all_goals (try dsimp only [Q.eta, Sn.eta, SlV.eta] at *)); (all_goals (first | exact Side.mk trivial | with_reducible exact Side.mk rfl | exact Side.mk (fun _ _ h => h) | exact Side.mk (Made.le (by assumption)) | refine Side.mk ?_ | refine Don.mk ?_ | skip))
    all_goals try (exfalso; have := of_decide_eq_false (by assumption : decide ((yn : Int) > 61) = false); omega)
    exact ⟨⟨none, 0, 0⟩, rfl, Side.mk (FreshO.none hg.keeps)⟩
  · have hws : ∀ s ∈ (splS 32 (bl b)).map strB, s.size ≤ 1048576 := by
      intro s hs
      obtain ⟨w, hw, rfl⟩ := List.mem_map.1 hs
      rw [strB_size]
      have := splS_len hw
      omega
    obtain ⟨q, es, hq⟩ : ∃ q es, (splS 32 (bl b)).map (fun w => (implR w).1) = q :: es := by
      cases hc : splS 32 (bl b) with
      | nil => exact absurd hc (splS_ne _ _)
      | cons w t => exact ⟨_, _, rfl⟩
    have hqs : ((splS 32 (bl b)).map strB).map qOf = q :: es := by
      rw [List.map_map, ← hq]
      exact List.map_congr_left fun w _ => qOf_strB w
    rw [implC_at h61 hq]
    (repeat' ((conv => whnf); (first | with_reducible apply And.intro | (with_reducible intro hh; first | (with_reducible have hx := NewRow.self hh; clear hx) | (with_reducible have hrow := Made.row hh; have hle := Made.le hh; have hmade := hh; clear hh) | (with_reducible have hrow := Fresh.rowS hh; have hle := Fresh.leS hh; have hfr := hh; clear hh) | (with_reducible have hx := Ext.self hh; clear hx) | (with_reducible have hx := SlV.self hh; clear hx) | (with_reducible have hx := Value.self hh; clear hx) | with_reducible cases hh | skip) | (with_reducible apply AllEq.mk; intro yy hq) | with_reducible apply trivial | with_reducible apply Exists.intro () | (with_reducible apply ex_side; (first | with_reducible assumption | with_reducible apply fracs1 | with_reducible apply fracs2 | with_reducible apply fracs3 | with_reducible apply spans1 | with_reducible apply spans2 | (with_reducible apply NewRow.keep; with_reducible assumption) | (with_reducible apply RowAt.keep; with_reducible assumption) | assumption | (focus ((repeat (first | with_reducible assumption | (with_reducible apply RowAt.le; rotate_left; with_reducible assumption) | (with_reducible apply RowB.le; rotate_left; with_reducible assumption))); done)))) | (with_reducible apply ex_side (a := (_, _)); (focus (with_reducible apply And.intro <;> (focus ((repeat (first | with_reducible assumption | (with_reducible apply RowAt.le; rotate_left; with_reducible assumption) | (with_reducible apply RowB.le; rotate_left; with_reducible assumption))); done))))))); (all_goals (conv => whnf)))
    (all_goals (try dsimp only [Q.eta, Sn.eta, SlV.eta] at *)); (all_goals (first | exact Side.mk trivial | with_reducible exact Side.mk rfl | exact Side.mk (fun _ _ h => h) | exact Side.mk (Made.le (by assumption)) | refine Side.mk ?_ | refine Don.mk ?_ | skip))
    all_goals try (exfalso; have := of_decide_eq_true (by assumption : decide ((yn : Int) > 61) = true); omega)
    refine ⟨(splS 32 (bl b)).map strB, Side.mk ⟨hg.own, by rw [List.length_map]; omega, hws⟩, fun z E2 hz => ?_⟩
    have hg2 := hz.out
    rw [hqs] at hg2
    have hrow := hg2.done.row
    obtain ⟨za, zn, zc⟩ := z
    clear hz
    have hzn : zn = es.length + 1 := by have h1 := hrow.1; simpa using h1
    have hzc : zn ≤ zc := hg2.own.2.1
    cases za with
    | none => have h1 := hrow.2.2.1 rfl; cases h1
    | some ad =>
    obtain ⟨x0, x1⟩ := FracsAt.at hrow (a := ad) (k := 0) rfl rfl
    have f0 : E2 ((ad.add (Int.toNat 0 * 2)).add 0) = some (.int .i64 q.p) := x0
    have f1 : E2 ((ad.add (Int.toNat 0 * 2)).add (0 + 1)) = some (.int .i64 q.q) := x1
    clear x0 x1
    have hes : FracsAt ⟨partA (some ad) zc (Int.toNat 1) 2, zn - Int.toNat 1, zc - Int.toNat 1⟩ es E2 := part_drop hrow 1 (by simp) hzc
    (repeat' ((conv => whnf); (first | with_reducible apply And.intro | (with_reducible intro hh; first | (with_reducible have hx := NewRow.self hh; clear hx) | (with_reducible have hrow := Made.row hh; have hle := Made.le hh; have hmade := hh; clear hh) | (with_reducible have hrow := Fresh.rowS hh; have hle := Fresh.leS hh; have hfr := hh; clear hh) | (with_reducible have hx := Ext.self hh; clear hx) | (with_reducible have hx := SlV.self hh; clear hx) | (with_reducible have hx := Value.self hh; clear hx) | with_reducible cases hh | skip) | (with_reducible apply AllEq.mk; intro yy hq) | with_reducible apply trivial | with_reducible apply Exists.intro () | (with_reducible apply ex_side; (first | with_reducible assumption | with_reducible apply fracs1 | with_reducible apply fracs2 | with_reducible apply fracs3 | with_reducible apply spans1 | with_reducible apply spans2 | (with_reducible apply NewRow.keep; with_reducible assumption) | (with_reducible apply RowAt.keep; with_reducible assumption) | assumption | (focus ((repeat (first | with_reducible assumption | (with_reducible apply RowAt.le; rotate_left; with_reducible assumption) | (with_reducible apply RowB.le; rotate_left; with_reducible assumption))); done)))) | (with_reducible apply ex_side (a := (_, _)); (focus (with_reducible apply And.intro <;> (focus ((repeat (first | with_reducible assumption | (with_reducible apply RowAt.le; rotate_left; with_reducible assumption) | (with_reducible apply RowB.le; rotate_left; with_reducible assumption))); done))))))); (all_goals (conv => whnf)))
    (all_goals (try dsimp only [Q.eta, Sn.eta, SlV.eta] at *)); (all_goals (first | exact Side.mk trivial | with_reducible exact Side.mk rfl | exact Side.mk (fun _ _ h => h) | exact Side.mk (Made.le (by assumption)) | refine Side.mk ?_ | refine Don.mk ?_ | skip))
    all_goals try exact ⟨by omega, by omega⟩
    all_goals have hk12 : Keeps E E2 := hg.keeps.trans hg2.keeps
    · have h9 : ctxt q es ≠ bl b := by
        rw [ba_toList, ba_toList] at hh
        rw [show (strB (ctxt q es)).data.toList = ctxt q es from bl_strB _] at hh
        simpa using hh
      rw [if_neg (fun h => h9 h.2)]
      exact ⟨⟨none, 0, 0⟩, rfl, Side.mk (FreshO.none hk12)⟩
    · have h9 : ctxt q es = bl b := by
        rw [ba_toList, ba_toList] at hh
        rw [show (strB (ctxt q es)).data.toList = ctxt q es from bl_strB _] at hh
        simpa using hh
      have h8 : okC q es = true := by simpa using (by assumption : (!okC q es) = false)
      rw [if_pos ⟨h8, h9⟩]
      refine ⟨⟨partA (some ad) zc (Int.toNat 1) 2, zn - Int.toNat 1, zc - Int.toNat 1⟩, rfl, Side.mk ⟨hes, hk12, ?_⟩⟩
      by_cases h0 : es.length = 0
      · exact .inl (by show zn - 1 = 0; omega)
      · right
        rcases hg2.own.2.2.2 with ⟨h1, _⟩ | ⟨bb, h1, h2, _⟩
        · cases h1
        · dsimp only at h1 h2
          cases h1
          obtain ⟨h3, h4⟩ := (hg2.before hg.keeps).fresh _ rfl
          refine ⟨bb, 2, ?_, ⟨_, h2, ?_⟩, h3, h4⟩
          · show partA (some ⟨bb, 0, none⟩) zc 1 2 = _
            unfold partA
            rw [if_neg (by omega)]
            rfl
          · show 2 + (zn - 1) * 2 ≤ zc * 2
            omega
    · have h9 : ¬ okC q es = true := by simpa using hh
      rw [if_neg (fun h => h9 h.1)]
      exact ⟨⟨none, 0, 0⟩, rfl, Side.mk (FreshO.none hk12)⟩

end Go.Proofs.YtadliapkjijahaaGreatDoor
