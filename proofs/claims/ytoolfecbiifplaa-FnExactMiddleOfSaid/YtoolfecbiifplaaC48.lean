/- Contracts of both packages' functions that find the middle of a list; for all lists that lie in memory; no other condition. -/
import Derived.Test.YtoolfecbiifplaaAb
import Derived.Test.YtoolfecbiifplaaC1
import Derived.Test.YtoolfecbiifplaaC2
import Derived.Test.YtoolfecbiifplaaC3
import Derived.Test.YtoolfecbiifplaaC4
import Derived.Test.YtoolfecbiifplaaC5
import Derived.Test.YtoolfecbiifplaaCL
import Derived.Test.YtoolfecbiifplaaC6
import Derived.Test.YtoolfecbiifplaaC7
import Derived.Test.YtoolfecbiifplaaC8
import Derived.Test.YtoolfecbiifplaaC9
import Derived.Test.YtoolfecbiifplaaCO
import Derived.Test.YtoolfecbiifplaaC10
import Derived.Test.YtoolfecbiifplaaC12
import Derived.Test.YtoolfecbiifplaaC13
import Derived.Test.YtoolfecbiifplaaC25
import Derived.Test.YtoolfecbiifplaaC30
import Derived.Test.YtoolfecbiifplaaCN
import Derived.Test.YtoolfecbiifplaaCS
import Derived.Test.YtoolfecbiifplaaC39
import Derived.Test.YtoolfecbiifplaaC40
import Derived.Test.YtoolfecbiifplaaC41
import Derived.Test.YtoolfecbiifplaaC42
import Derived.Test.YtoolfecbiifplaaC43
import Derived.Test.YtoolfecbiifplaaC44
import Derived.Test.YtoolfecbiifplaaC45
import Derived.Test.YtoolfecbiifplaaC46
import Derived.Test.YtoolfecbiifplaaProg
set_option linter.unusedVariables false
set_option linter.unusedSimpArgs false
namespace Go.Proofs.Ytoolfecbiifplaa
open Ab

open Go.Shelf Go.RowKit Go.Lib Go.Sort
def vqs (l : List Q) : List VQ := l.filterMap fun a => if h : okQ a = true then some ⟨a, h⟩ else none
theorem vqs_map : ∀ {l : List Q}, (∀ a ∈ l, okQ a = true) → (vqs l).map (·.1) = l
  | [], _ => rfl
  | a :: l, h => by
    have ha := h a (List.mem_cons_self ..)
    have hl := vqs_map (l := l) fun b hb => h b (List.mem_cons_of_mem _ hb)
    unfold vqs at hl ⊢
    rw [List.filterMap_cons, dif_pos ha]
    dsimp only
    rw [List.map_cons, hl]
def midV (w : List Q) : Q × Int := if w.length % 2 = 1 then (w.getD (w.length / 2) ⟨0, 0⟩, 0) else outO (meanO ((w.take (w.length / 2 + 1)).drop (w.length / 2 - 1)))
def midR (l : List Q) : Q × Int := if listC 1 l = 0 then midV ((vsort (vqs l)).map (·.1)) else (⟨0, 0⟩, listC 1 l)
theorem allOk_mem {l : List Q} (h : allOk l = true) : ∀ a ∈ l, okQ a = true := fun a ha => by
  unfold allOk at h
  exact List.all_eq_true.1 h a ha
theorem part_mid {a : Option Addr} {n c : Nat} {l : List Q} {E : Ext} (h : FracsAt ⟨a, n, c⟩ l E) (i j : Nat) (hij : i ≤ j) (hj : j ≤ l.length) (hc : n ≤ c) : FracsAt ⟨partA a c i 2, j - i, c - i⟩ ((l.take j).drop i) E :=
  part_drop (part_take h j hj c) i (by rw [List.length_take]; omega) (by have := h.1; dsimp only at this; omega)
abbrev midFSp : Sp := .nf FS (fun x (l : List Q) E => FracsAt x.1 l E) (fun _ l (_ : Unit) => RQ (midR l)) (fun _ _ _ E E' => Ext.le E E')
set_option maxHeartbeats 2000000 in
set_option maxRecDepth 100000 in
theorem mid_ok : Sp.ok Try.prog 30 midFSp := by
  refine Sp.nf_ok (T := ⟨[(68, isSomeSp), (63, ascSp), (69, meanFSp)], []⟩) follows eqok0 ⟨enters Try.func68 rfl rfl, isSome_ok, enters Try.func63 rfl rfl, ascend_ok, enters Try.func69 rfl rfl, meanF_ok, trivial⟩ [] Try.func30 rfl (by kernel_rfl) _ _ _ _ fun x l E hp => ?_
  obtain ⟨⟨sa, n, c⟩, u⟩ := x
  have hn := hp.1
  dsimp only at hn
  by_cases hz : listC 1 l = 0
  · have hl := listC_zero hz
    have hmap := vqs_map (allOk_mem hl.1)
    (repeat' ((conv => whnf); (first | with_reducible apply And.intro | (with_reducible intro hh; first | (with_reducible have hx := NewRow.self hh; clear hx) | (with_reducible have hrow := Made.row hh; have hle := Made.le hh; have hmade := hh; clear hh) | (with_reducible have hrow := Fresh.rowS hh; have hle := Fresh.leS hh; have hfr := hh; clear hh) | (with_reducible have hx := Ext.self hh; clear hx) | (with_reducible have hx := SlV.self hh; clear hx) | (with_reducible have hx := Value.self hh; clear hx) | with_reducible cases hh | skip) | (with_reducible apply AllEq.mk; intro yy hq) | with_reducible apply trivial | with_reducible apply Exists.intro () | (with_reducible apply ex_side; (first | with_reducible assumption | with_reducible apply fracs1 | with_reducible apply fracs2 | with_reducible apply fracs3 | with_reducible apply spans1 | with_reducible apply spans2 | (with_reducible apply NewRow.keep; with_reducible assumption) | (with_reducible apply RowAt.keep; with_reducible assumption) | assumption | (focus ((repeat (first | with_reducible assumption | (with_reducible apply RowAt.le; rotate_left; with_reducible assumption) | (with_reducible apply RowB.le; rotate_left; with_reducible assumption))); done)))) | (with_reducible apply ex_side (a := (_, _)); (focus (with_reducible apply And.intro <;> (focus ((repeat (first | with_reducible assumption | (with_reducible apply RowAt.le; rotate_left; with_reducible assumption) | (with_reducible apply RowB.le; rotate_left; with_reducible assumption))); done))))))); (all_goals (conv => whnf)))
    (all_goals (try dsimp only [Q.eta, Sn.eta, SlV.eta] at *)); (all_goals (first | exact Side.mk trivial | with_reducible exact Side.mk rfl | exact Side.mk (fun _ _ h => h) | exact Side.mk (Made.le (by assumption)) | refine Side.mk ?_ | refine Don.mk ?_ | skip))
    · exfalso
      rw [hz] at hh
      exact absurd hh (by decide)
    clear hh
    have hlen : (vqs l).length = l.length := by have := congrArg List.length hmap; simpa using this
    refine ⟨vqs l, Side.mk ⟨by rw [hmap]; exact hp, by omega, by omega⟩, fun y E1 hs => ?_⟩
    obtain ⟨hf, hyc⟩ := hs.out
    have hy := hf.row
    have hle := hf.le
    obtain ⟨ya, yn, yc⟩ := y
    have hM : midR l = midV ((vsort (vqs l)).map (·.1)) := if_pos hz
    have hwl : ((vsort (vqs l)).map (·.1)).length = l.length := by rw [List.length_map, vsort_len, hlen]
    have hwo : ∀ a ∈ (vsort (vqs l)).map (·.1), okQ a = true := by
      intro a ha
      obtain ⟨v, _, rfl⟩ := List.mem_map.1 ha
      exact v.2
    revert hy hM hwl hwo
    generalize (vsort (vqs l)).map (·.1) = w
    intro hy hM hwl hwo
    clear hs hf hmap hlen
    have hyn := hy.1
    dsimp only at hyn hyc
    cases ya with
    | none => have := hy.2.2.1 rfl; rw [this] at hwl; simp at hwl; omega
    | some ad =>
    have hk : IntKind.i64.wrap ((n : Int).tdiv 2) = ((w.length / 2 : Nat) : Int) := by
      rw [show (n : Int).tdiv 2 = ((n / 2 : Nat) : Int) from (Int.ofNat_tdiv n 2).symm, wrap_in (by omega) (by omega)]
      omega
    have hr : (n : Int).tmod 2 = ((n % 2 : Nat) : Int) := (Int.ofNat_tmod n 2).symm
    by_cases hodd : w.length % 2 = 1
    · obtain ⟨x, hx⟩ : ∃ x, w[w.length / 2]? = some x := ⟨_, List.getElem?_eq_getElem (by omega)⟩
      obtain ⟨g0, g1⟩ := FracsAt.at hy (a := ad) rfl hx
      rw [← hk] at g0 g1
      (repeat' ((conv => whnf); (first | with_reducible apply And.intro | (with_reducible intro hh; first | (with_reducible have hx := NewRow.self hh; clear hx) | (with_reducible have hrow := Made.row hh; have hle := Made.le hh; have hmade := hh; clear hh) | (with_reducible have hrow := Fresh.rowS hh; have hle := Fresh.leS hh; have hfr := hh; clear hh) | (with_reducible have hx := Ext.self hh; clear hx) | (with_reducible have hx := SlV.self hh; clear hx) | (with_reducible have hx := Value.self hh; clear hx) | with_reducible cases hh | skip) | (with_reducible apply AllEq.mk; intro yy hq) | with_reducible apply trivial | with_reducible apply Exists.intro () | (with_reducible apply ex_side; (first | with_reducible assumption | with_reducible apply fracs1 | with_reducible apply fracs2 | with_reducible apply fracs3 | with_reducible apply spans1 | with_reducible apply spans2 | (with_reducible apply NewRow.keep; with_reducible assumption) | (with_reducible apply RowAt.keep; with_reducible assumption) | assumption | (focus ((repeat (first | with_reducible assumption | (with_reducible apply RowAt.le; rotate_left; with_reducible assumption) | (with_reducible apply RowB.le; rotate_left; with_reducible assumption))); done)))) | (with_reducible apply ex_side (a := (_, _)); (focus (with_reducible apply And.intro <;> (focus ((repeat (first | with_reducible assumption | (with_reducible apply RowAt.le; rotate_left; with_reducible assumption) | (with_reducible apply RowB.le; rotate_left; with_reducible assumption))); done))))))); (all_goals (conv => whnf)))
      (all_goals (try dsimp only [Q.eta, Sn.eta, SlV.eta] at *)); (all_goals (first | exact Side.mk trivial | with_reducible exact Side.mk rfl | exact Side.mk (fun _ _ h => h) | exact Side.mk (Made.le (by assumption)) | refine Side.mk ?_ | refine Don.mk ?_ | skip))
      all_goals try exact (by decide : (2 : Int) ≠ 0)
      all_goals try (exfalso; have h8 := (by assumption : ((n : Int).tmod 2 == 1) = false); rw [hr, show n % 2 = 1 by omega] at h8; exact absurd h8 (by decide))
      · rw [hk]
        exact ⟨by omega, by omega⟩
      · rw [hM, midV, if_pos hodd, List.getD_eq_getElem?_getD, hx]
        exact ⟨(), rfl, by first | assumption | exact fun _ _ h => h⟩
    · have i1 : IntKind.i64.wrap (IntKind.i64.wrap ((n : Int).tdiv 2) - 1) = ((w.length / 2 - 1 : Nat) : Int) := by
        rw [hk, wrap_in (by omega) (by omega)]
        omega
      have i2 : IntKind.i64.wrap (IntKind.i64.wrap ((n : Int).tdiv 2) + 1) = ((w.length / 2 + 1 : Nat) : Int) := by
        rw [hk, wrap_in (by omega) (by omega)]
        omega
      have hpm : FracsAt ⟨partA (some ad) yc (IntKind.i64.wrap (IntKind.i64.wrap ((n : Int).tdiv 2) - 1)).toNat 2, (IntKind.i64.wrap (IntKind.i64.wrap ((n : Int).tdiv 2) + 1)).toNat - (IntKind.i64.wrap (IntKind.i64.wrap ((n : Int).tdiv 2) - 1)).toNat, yc - (IntKind.i64.wrap (IntKind.i64.wrap ((n : Int).tdiv 2) - 1)).toNat⟩ ((w.take (w.length / 2 + 1)).drop (w.length / 2 - 1)) E1 := by
        rw [i1, i2]
        exact part_mid hy _ _ (by omega) (by omega) hyc
      have hmR : meanR ((w.take (w.length / 2 + 1)).drop (w.length / 2 - 1)) = outO (meanO ((w.take (w.length / 2 + 1)).drop (w.length / 2 - 1))) := by
        have hlen : ((w.take (w.length / 2 + 1)).drop (w.length / 2 - 1)).length = 2 := by
          rw [List.length_drop, List.length_take]
          omega
        have hall : allOk ((w.take (w.length / 2 + 1)).drop (w.length / 2 - 1)) = true := by
          unfold allOk
          rw [List.all_eq_true]
          intro a ha
          exact hwo a (List.mem_of_mem_take (List.mem_of_mem_drop ha))
        have hc : listC 1 ((w.take (w.length / 2 + 1)).drop (w.length / 2 - 1)) = 0 := by
          rw [listC, if_pos hall, hlen]
          rfl
        rw [meanR, if_pos hc]
      (repeat' ((conv => whnf); (first | with_reducible apply And.intro | (with_reducible intro hh; first | (with_reducible have hx := NewRow.self hh; clear hx) | (with_reducible have hrow := Made.row hh; have hle := Made.le hh; have hmade := hh; clear hh) | (with_reducible have hrow := Fresh.rowS hh; have hle := Fresh.leS hh; have hfr := hh; clear hh) | (with_reducible have hx := Ext.self hh; clear hx) | (with_reducible have hx := SlV.self hh; clear hx) | (with_reducible have hx := Value.self hh; clear hx) | with_reducible cases hh | skip) | (with_reducible apply AllEq.mk; intro yy hq) | with_reducible apply trivial | with_reducible apply Exists.intro () | (with_reducible apply ex_side; (first | with_reducible assumption | with_reducible apply fracs1 | with_reducible apply fracs2 | with_reducible apply fracs3 | with_reducible apply spans1 | with_reducible apply spans2 | (with_reducible apply NewRow.keep; with_reducible assumption) | (with_reducible apply RowAt.keep; with_reducible assumption) | assumption | (focus ((repeat (first | with_reducible assumption | (with_reducible apply RowAt.le; rotate_left; with_reducible assumption) | (with_reducible apply RowB.le; rotate_left; with_reducible assumption))); done)))) | (with_reducible apply ex_side (a := (_, _)); (focus (with_reducible apply And.intro <;> (focus ((repeat (first | with_reducible assumption | (with_reducible apply RowAt.le; rotate_left; with_reducible assumption) | (with_reducible apply RowB.le; rotate_left; with_reducible assumption))); done))))))); (all_goals (conv => whnf)))
      (all_goals (try dsimp only [Q.eta, Sn.eta, SlV.eta] at *)); (all_goals (first | exact Side.mk trivial | with_reducible exact Side.mk rfl | exact Side.mk (fun _ _ h => h) | exact Side.mk (Made.le (by assumption)) | refine Side.mk ?_ | refine Don.mk ?_ | skip))
      all_goals try exact (by decide : (2 : Int) ≠ 0)
      all_goals try (exfalso; have h8 := (by assumption : ((n : Int).tmod 2 == 1) = true); rw [hr, show n % 2 = 0 by omega] at h8; exact absurd h8 (by decide))
      · rw [i1, i2]
        exact ⟨by omega, by omega, by omega⟩
      · rw [hM, midV, if_neg hodd, ← hmR]
        exact ⟨(), rfl, by first | assumption | exact fun _ _ h => h⟩
  · (repeat' ((conv => whnf); (first | with_reducible apply And.intro | (with_reducible intro hh; first | (with_reducible have hx := NewRow.self hh; clear hx) | (with_reducible have hrow := Made.row hh; have hle := Made.le hh; have hmade := hh; clear hh) | (with_reducible have hrow := Fresh.rowS hh; have hle := Fresh.leS hh; have hfr := hh; clear hh) | (with_reducible have hx := Ext.self hh; clear hx) | (with_reducible have hx := SlV.self hh; clear hx) | (with_reducible have hx := Value.self hh; clear hx) | with_reducible cases hh | skip) | (with_reducible apply AllEq.mk; intro yy hq) | with_reducible apply trivial | with_reducible apply Exists.intro () | (with_reducible apply ex_side; (first | with_reducible assumption | with_reducible apply fracs1 | with_reducible apply fracs2 | with_reducible apply fracs3 | with_reducible apply spans1 | with_reducible apply spans2 | (with_reducible apply NewRow.keep; with_reducible assumption) | (with_reducible apply RowAt.keep; with_reducible assumption) | assumption | (focus ((repeat (first | with_reducible assumption | (with_reducible apply RowAt.le; rotate_left; with_reducible assumption) | (with_reducible apply RowB.le; rotate_left; with_reducible assumption))); done)))) | (with_reducible apply ex_side (a := (_, _)); (focus (with_reducible apply And.intro <;> (focus ((repeat (first | with_reducible assumption | (with_reducible apply RowAt.le; rotate_left; with_reducible assumption) | (with_reducible apply RowB.le; rotate_left; with_reducible assumption))); done))))))); (all_goals (conv => whnf)))
    (all_goals (try dsimp only [Q.eta, Sn.eta, SlV.eta] at *)); (all_goals (first | exact Side.mk trivial | with_reducible exact Side.mk rfl | exact Side.mk (fun _ _ h => h) | exact Side.mk (Made.le (by assumption)) | refine Side.mk ?_ | refine Don.mk ?_ | skip))
    all_goals try (exfalso; simp_all; done)
    rw [midR, if_neg hz]
    exact ⟨(), rfl, by first | assumption | exact fun _ _ h => h⟩
/-! the reference -/
abbrev smiddSp : Sp := .nf FS (fun x (l : List Q) E => AllRow x.1 l E ∧ 1 ≤ l.length ∧ l.length ≤ 64) (fun _ l (_ : Unit) => RQ (midV ((vsort (vqs l)).map (·.1)))) (fun _ _ _ E E' => Ext.le E E')
set_option maxHeartbeats 2000000 in
set_option maxRecDepth 100000 in
theorem smidd_ok : Sp.ok Try.prog 67 smiddSp := by
  refine Sp.nf_ok (T := ⟨[(94, srtSp), (95, smeanSp)], []⟩) follows eqok0 ⟨enters Try.func94 rfl rfl, srt_ok, enters Try.func95 rfl rfl, smean_ok, trivial⟩ [] Try.func67 rfl (by kernel_rfl) _ _ _ _ fun x l E hp => ?_
  obtain ⟨⟨sa, n, c⟩, u⟩ := x
  obtain ⟨⟨hp, hA⟩, hl1, hl64⟩ := hp
  have hn := hp.1
  dsimp only at hn hp
  have hmap := vqs_map (allOk_mem hA)
  (repeat' ((conv => whnf); (first | with_reducible apply And.intro | (with_reducible intro hh; first | (with_reducible have hx := NewRow.self hh; clear hx) | (with_reducible have hrow := Made.row hh; have hle := Made.le hh; have hmade := hh; clear hh) | (with_reducible have hrow := Fresh.rowS hh; have hle := Fresh.leS hh; have hfr := hh; clear hh) | (with_reducible have hx := Ext.self hh; clear hx) | (with_reducible have hx := SlV.self hh; clear hx) | (with_reducible have hx := Value.self hh; clear hx) | with_reducible cases hh | skip) | (with_reducible apply AllEq.mk; intro yy hq) | with_reducible apply trivial | with_reducible apply Exists.intro () | (with_reducible apply ex_side; (first | with_reducible assumption | with_reducible apply fracs1 | with_reducible apply fracs2 | with_reducible apply fracs3 | with_reducible apply spans1 | with_reducible apply spans2 | (with_reducible apply NewRow.keep; with_reducible assumption) | (with_reducible apply RowAt.keep; with_reducible assumption) | assumption | (focus ((repeat (first | with_reducible assumption | (with_reducible apply RowAt.le; rotate_left; with_reducible assumption) | (with_reducible apply RowB.le; rotate_left; with_reducible assumption))); done)))) | (with_reducible apply ex_side (a := (_, _)); (focus (with_reducible apply And.intro <;> (focus ((repeat (first | with_reducible assumption | (with_reducible apply RowAt.le; rotate_left; with_reducible assumption) | (with_reducible apply RowB.le; rotate_left; with_reducible assumption))); done))))))); (all_goals (conv => whnf)))
  (all_goals (try dsimp only [Q.eta, Sn.eta, SlV.eta] at *)); (all_goals (first | exact Side.mk trivial | with_reducible exact Side.mk rfl | exact Side.mk (fun _ _ h => h) | exact Side.mk (Made.le (by assumption)) | refine Side.mk ?_ | refine Don.mk ?_ | skip))
  have hlen : (vqs l).length = l.length := by have := congrArg List.length hmap; simpa using this
  refine ⟨vqs l, Side.mk ⟨by rw [hmap]; exact hp, by omega⟩, fun y E1 hs => ?_⟩
  obtain ⟨hf, hyc⟩ := hs.out
  rw [srtV_eq] at hf
  have hy := hf.row
  have hle := hf.le
  obtain ⟨ya, yn, yc⟩ := y
  have hwl : ((vsort (vqs l)).map (·.1)).length = l.length := by rw [List.length_map, vsort_len, hlen]
  have hwo : ∀ a ∈ (vsort (vqs l)).map (·.1), okQ a = true := by
    intro a ha
    obtain ⟨v, _, rfl⟩ := List.mem_map.1 ha
    exact v.2
  revert hy hwl hwo
  generalize (vsort (vqs l)).map (·.1) = w
  intro hy hwl hwo
  clear hs hf hmap hlen
  have hyn := hy.1
  dsimp only at hyn hyc
  cases ya with
  | none => have := hy.2.2.1 rfl; rw [this] at hwl; simp at hwl; omega
  | some ad =>
  have hk : IntKind.i64.wrap ((yn : Int).tdiv 2) = ((w.length / 2 : Nat) : Int) := by
    rw [show (yn : Int).tdiv 2 = ((yn / 2 : Nat) : Int) from (Int.ofNat_tdiv yn 2).symm, wrap_in (by omega) (by omega)]
    omega
  have hr : (yn : Int).tmod 2 = ((yn % 2 : Nat) : Int) := (Int.ofNat_tmod yn 2).symm
  by_cases hodd : w.length % 2 = 1
  · obtain ⟨x, hx⟩ : ∃ x, w[w.length / 2]? = some x := ⟨_, List.getElem?_eq_getElem (by omega)⟩
    obtain ⟨g0, g1⟩ := FracsAt.at hy (a := ad) rfl hx
    rw [← hk] at g0 g1
    (repeat' ((conv => whnf); (first | with_reducible apply And.intro | (with_reducible intro hh; first | (with_reducible have hx := NewRow.self hh; clear hx) | (with_reducible have hrow := Made.row hh; have hle := Made.le hh; have hmade := hh; clear hh) | (with_reducible have hrow := Fresh.rowS hh; have hle := Fresh.leS hh; have hfr := hh; clear hh) | (with_reducible have hx := Ext.self hh; clear hx) | (with_reducible have hx := SlV.self hh; clear hx) | (with_reducible have hx := Value.self hh; clear hx) | with_reducible cases hh | skip) | (with_reducible apply AllEq.mk; intro yy hq) | with_reducible apply trivial | with_reducible apply Exists.intro () | (with_reducible apply ex_side; (first | with_reducible assumption | with_reducible apply fracs1 | with_reducible apply fracs2 | with_reducible apply fracs3 | with_reducible apply spans1 | with_reducible apply spans2 | (with_reducible apply NewRow.keep; with_reducible assumption) | (with_reducible apply RowAt.keep; with_reducible assumption) | assumption | (focus ((repeat (first | with_reducible assumption | (with_reducible apply RowAt.le; rotate_left; with_reducible assumption) | (with_reducible apply RowB.le; rotate_left; with_reducible assumption))); done)))) | (with_reducible apply ex_side (a := (_, _)); (focus (with_reducible apply And.intro <;> (focus ((repeat (first | with_reducible assumption | (with_reducible apply RowAt.le; rotate_left; with_reducible assumption) | (with_reducible apply RowB.le; rotate_left; with_reducible assumption))); done))))))); (all_goals (conv => whnf)))
    (all_goals (try dsimp only [Q.eta, Sn.eta, SlV.eta] at *)); (all_goals (first | exact Side.mk trivial | with_reducible exact Side.mk rfl | exact Side.mk (fun _ _ h => h) | exact Side.mk (Made.le (by assumption)) | refine Side.mk ?_ | refine Don.mk ?_ | skip))
    all_goals try exact (by decide : (2 : Int) ≠ 0)
    all_goals try (exfalso; have h8 := (by assumption : ((yn : Int).tmod 2 == 1) = false); rw [hr, show yn % 2 = 1 by omega] at h8; exact absurd h8 (by decide))
    · rw [hk]
      exact ⟨by omega, by omega⟩
    · rw [midV, if_pos hodd, List.getD_eq_getElem?_getD, hx]
      exact ⟨(), rfl, by first | assumption | exact fun _ _ h => h⟩
  · have i1 : IntKind.i64.wrap (IntKind.i64.wrap ((yn : Int).tdiv 2) - 1) = ((w.length / 2 - 1 : Nat) : Int) := by
      rw [hk, wrap_in (by omega) (by omega)]
      omega
    have i2 : IntKind.i64.wrap (IntKind.i64.wrap ((yn : Int).tdiv 2) + 1) = ((w.length / 2 + 1 : Nat) : Int) := by
      rw [hk, wrap_in (by omega) (by omega)]
      omega
    have hlen : ((w.take (w.length / 2 + 1)).drop (w.length / 2 - 1)).length = 2 := by
      rw [List.length_drop, List.length_take]
      omega
    have hall : allOk ((w.take (w.length / 2 + 1)).drop (w.length / 2 - 1)) = true := by
      unfold allOk
      rw [List.all_eq_true]
      intro a ha
      exact hwo a (List.mem_of_mem_take (List.mem_of_mem_drop ha))
    have hpm : AllRow ⟨partA (some ad) yc (IntKind.i64.wrap (IntKind.i64.wrap ((yn : Int).tdiv 2) - 1)).toNat 2, (IntKind.i64.wrap (IntKind.i64.wrap ((yn : Int).tdiv 2) + 1)).toNat - (IntKind.i64.wrap (IntKind.i64.wrap ((yn : Int).tdiv 2) - 1)).toNat, yc - (IntKind.i64.wrap (IntKind.i64.wrap ((yn : Int).tdiv 2) - 1)).toNat⟩ ((w.take (w.length / 2 + 1)).drop (w.length / 2 - 1)) E1 ∧ 0 < ((w.take (w.length / 2 + 1)).drop (w.length / 2 - 1)).length ∧ ((w.take (w.length / 2 + 1)).drop (w.length / 2 - 1)).length ≤ 64 := by
      refine ⟨⟨?_, hall⟩, by omega, by omega⟩
      rw [i1, i2]
      exact part_mid hy _ _ (by omega) (by omega) hyc
    (repeat' ((conv => whnf); (first | with_reducible apply And.intro | (with_reducible intro hh; first | (with_reducible have hx := NewRow.self hh; clear hx) | (with_reducible have hrow := Made.row hh; have hle := Made.le hh; have hmade := hh; clear hh) | (with_reducible have hrow := Fresh.rowS hh; have hle := Fresh.leS hh; have hfr := hh; clear hh) | (with_reducible have hx := Ext.self hh; clear hx) | (with_reducible have hx := SlV.self hh; clear hx) | (with_reducible have hx := Value.self hh; clear hx) | with_reducible cases hh | skip) | (with_reducible apply AllEq.mk; intro yy hq) | with_reducible apply trivial | with_reducible apply Exists.intro () | (with_reducible apply ex_side; (first | with_reducible assumption | with_reducible apply fracs1 | with_reducible apply fracs2 | with_reducible apply fracs3 | with_reducible apply spans1 | with_reducible apply spans2 | (with_reducible apply NewRow.keep; with_reducible assumption) | (with_reducible apply RowAt.keep; with_reducible assumption) | assumption | (focus ((repeat (first | with_reducible assumption | (with_reducible apply RowAt.le; rotate_left; with_reducible assumption) | (with_reducible apply RowB.le; rotate_left; with_reducible assumption))); done)))) | (with_reducible apply ex_side (a := (_, _)); (focus (with_reducible apply And.intro <;> (focus ((repeat (first | with_reducible assumption | (with_reducible apply RowAt.le; rotate_left; with_reducible assumption) | (with_reducible apply RowB.le; rotate_left; with_reducible assumption))); done))))))); (all_goals (conv => whnf)))
    (all_goals (try dsimp only [Q.eta, Sn.eta, SlV.eta] at *)); (all_goals (first | exact Side.mk trivial | with_reducible exact Side.mk rfl | exact Side.mk (fun _ _ h => h) | exact Side.mk (Made.le (by assumption)) | refine Side.mk ?_ | refine Don.mk ?_ | skip))
    all_goals try exact (by decide : (2 : Int) ≠ 0)
    all_goals try (exfalso; have h8 := (by assumption : ((yn : Int).tmod 2 == 1) = true); rw [hr, show yn % 2 = 0 by omega] at h8; exact absurd h8 (by decide))
    · rw [i1, i2]
      exact ⟨by omega, by omega, by omega⟩
    · rw [midV, if_neg hodd]
      exact ⟨(), rfl, by first | assumption | exact fun _ _ h => h⟩
set_option maxRecDepth 100000 in
theorem smid_ok : Sp.ok Try.prog 28 midFSp := by
  refine Sp.nf_ok (T := ⟨[(66, slistSp), (67, smiddSp)], []⟩) follows eqok0 ⟨enters Try.func66 rfl rfl, slist_ok, enters Try.func67 rfl rfl, smidd_ok, trivial⟩ [] Try.func28 rfl (by kernel_rfl) _ _ _ _ fun x l E hp => ?_
  obtain ⟨⟨sa, n, c⟩, u⟩ := x
  by_cases hz : listC 1 l = 0
  · have hl := listC_zero hz
    have hA : AllRow ⟨sa, n, c⟩ l E ∧ 1 ≤ l.length ∧ l.length ≤ 64 := ⟨⟨hp, hl.1⟩, by omega, hl.2.1⟩
    (repeat' ((conv => whnf); (first | with_reducible apply And.intro | (with_reducible intro hh; first | (with_reducible have hx := NewRow.self hh; clear hx) | (with_reducible have hrow := Made.row hh; have hle := Made.le hh; have hmade := hh; clear hh) | (with_reducible have hrow := Fresh.rowS hh; have hle := Fresh.leS hh; have hfr := hh; clear hh) | (with_reducible have hx := Ext.self hh; clear hx) | (with_reducible have hx := SlV.self hh; clear hx) | (with_reducible have hx := Value.self hh; clear hx) | with_reducible cases hh | skip) | (with_reducible apply AllEq.mk; intro yy hq) | with_reducible apply trivial | with_reducible apply Exists.intro () | (with_reducible apply ex_side; (first | with_reducible assumption | with_reducible apply fracs1 | with_reducible apply fracs2 | with_reducible apply fracs3 | with_reducible apply spans1 | with_reducible apply spans2 | (with_reducible apply NewRow.keep; with_reducible assumption) | (with_reducible apply RowAt.keep; with_reducible assumption) | assumption | (focus ((repeat (first | with_reducible assumption | (with_reducible apply RowAt.le; rotate_left; with_reducible assumption) | (with_reducible apply RowB.le; rotate_left; with_reducible assumption))); done)))) | (with_reducible apply ex_side (a := (_, _)); (focus (with_reducible apply And.intro <;> (focus ((repeat (first | with_reducible assumption | (with_reducible apply RowAt.le; rotate_left; with_reducible assumption) | (with_reducible apply RowB.le; rotate_left; with_reducible assumption))); done))))))); (all_goals (conv => whnf)))
    (all_goals (try dsimp only [Q.eta, Sn.eta, SlV.eta] at *)); (all_goals (first | exact Side.mk trivial | with_reducible exact Side.mk rfl | exact Side.mk (fun _ _ h => h) | exact Side.mk (Made.le (by assumption)) | refine Side.mk ?_ | refine Don.mk ?_ | skip))
    all_goals try (exfalso; simp_all; done)
    rw [midR, if_pos hz]
    exact ⟨(), rfl, by first | assumption | exact fun _ _ h => h⟩
  · (repeat' ((conv => whnf); (first | with_reducible apply And.intro | (with_reducible intro hh; first | (with_reducible have hx := NewRow.self hh; clear hx) | (with_reducible have hrow := Made.row hh; have hle := Made.le hh; have hmade := hh; clear hh) | (with_reducible have hrow := Fresh.rowS hh; have hle := Fresh.leS hh; have hfr := hh; clear hh) | (with_reducible have hx := Ext.self hh; clear hx) | (with_reducible have hx := SlV.self hh; clear hx) | (with_reducible have hx := Value.self hh; clear hx) | with_reducible cases hh | skip) | (with_reducible apply AllEq.mk; intro yy hq) | with_reducible apply trivial | with_reducible apply Exists.intro () | (with_reducible apply ex_side; (first | with_reducible assumption | with_reducible apply fracs1 | with_reducible apply fracs2 | with_reducible apply fracs3 | with_reducible apply spans1 | with_reducible apply spans2 | (with_reducible apply NewRow.keep; with_reducible assumption) | (with_reducible apply RowAt.keep; with_reducible assumption) | assumption | (focus ((repeat (first | with_reducible assumption | (with_reducible apply RowAt.le; rotate_left; with_reducible assumption) | (with_reducible apply RowB.le; rotate_left; with_reducible assumption))); done)))) | (with_reducible apply ex_side (a := (_, _)); (focus (with_reducible apply And.intro <;> (focus ((repeat (first | with_reducible assumption | (with_reducible apply RowAt.le; rotate_left; with_reducible assumption) | (with_reducible apply RowB.le; rotate_left; with_reducible assumption))); done))))))); (all_goals (conv => whnf)))
    (all_goals (try dsimp only [Q.eta, Sn.eta, SlV.eta] at *)); (all_goals (first | exact Side.mk trivial | with_reducible exact Side.mk rfl | exact Side.mk (fun _ _ h => h) | exact Side.mk (Made.le (by assumption)) | refine Side.mk ?_ | refine Don.mk ?_ | skip))
    all_goals try (exfalso; simp_all; done)
    rw [midR, if_neg hz]
    exact ⟨(), rfl, by first | assumption | exact fun _ _ h => h⟩

end Go.Proofs.Ytoolfecbiifplaa
