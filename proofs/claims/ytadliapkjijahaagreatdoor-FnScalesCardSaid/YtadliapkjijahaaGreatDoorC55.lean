/- Contracts of the reference's functions that split texts and read fractions; condition: texts of a million bytes at most. -/
import Derived.Test.YtadliapkjijahaaGreatDoorAb
import Derived.Test.YtadliapkjijahaaGreatDoorC1
import Derived.Test.YtadliapkjijahaaGreatDoorC2
import Derived.Test.YtadliapkjijahaaGreatDoorC3
import Derived.Test.YtadliapkjijahaaGreatDoorC4
import Derived.Test.YtadliapkjijahaaGreatDoorC10
import Derived.Test.YtadliapkjijahaaGreatDoorC12
import Derived.Test.YtadliapkjijahaaGreatDoorC24
import Derived.Test.YtadliapkjijahaaGreatDoorC25
import Derived.Test.YtadliapkjijahaaGreatDoorC30
import Derived.Test.YtadliapkjijahaaGreatDoorCN
import Derived.Test.YtadliapkjijahaaGreatDoorCK
import Derived.Test.YtadliapkjijahaaGreatDoorCG
import Derived.Test.YtadliapkjijahaaGreatDoorCF
import Derived.Test.YtadliapkjijahaaGreatDoorC50
import Derived.Test.YtadliapkjijahaaGreatDoorC53
import Derived.Test.YtadliapkjijahaaGreatDoorC54
import Derived.Test.YtadliapkjijahaaGreatDoorProg
set_option linter.unusedVariables false
set_option linter.unusedSimpArgs false
namespace Go.Proofs.YtadliapkjijahaaGreatDoor
open Ab

open Go.Shelf Go.RowKit Go.Lib Go.Sort
def Arg.u8 : Arg Int where
  enc n := .int .u8 n
  dec | .int .u8 n => some n
      | _ => none
  ok := by intro v x h; split at h <;> simp_all
abbrev TU : ArgL (ByteArray × Int × Unit) := .cons .str (.cons Arg.u8 .nil)
def addH (a : List UInt8) : List (List UInt8) → List (List UInt8)
  | h :: t => (a ++ h) :: t
  | [] => [a]
theorem ba_ext (b : ByteArray) (i j : Nat) : b.extract i j = strB (((bl b).drop i).take (j - i)) := by
  have h := ba_cut b i j
  apply ByteArray.ext
  apply Array.ext'
  rw [h]
  rfl
theorem split_at {c : UInt8} {l : List UInt8} {bg k : Nat} (hb : bg ≤ k) (h : l[k]? = some c) : addH ((l.drop bg).take (k - bg)) (splS c (l.drop k)) = (l.drop bg).take (k - bg) :: addH ((l.drop (k + 1)).take (k + 1 - (k + 1))) (splS c (l.drop (k + 1))) := by
  rw [drop_some h, splS, if_pos rfl]
  cases hs : splS c (l.drop (k + 1)) with
  | nil => exact absurd hs (splS_ne _ _)
  | cons x t =>
    show ((l.drop bg).take (k - bg) ++ []) :: (x :: t) = _
    rw [List.append_nil, Nat.sub_self, List.take_zero]
    rfl
theorem split_on {c d : UInt8} {l : List UInt8} {bg k : Nat} (hb : bg ≤ k) (h : l[k]? = some d) (hd : d ≠ c) : addH ((l.drop bg).take (k - bg)) (splS c (l.drop k)) = addH ((l.drop bg).take (k + 1 - bg)) (splS c (l.drop (k + 1))) := by
  rw [drop_some h, splS, if_neg hd]
  have h2 : (l.drop bg).take (k + 1 - bg) = (l.drop bg).take (k - bg) ++ [d] := by
    rw [show k + 1 - bg = (k - bg) + 1 by omega, List.take_add_one, List.getElem?_drop, show bg + (k - bg) = k by omega, h]
    rfl
  rw [h2]
  cases hs : splS c (l.drop (k + 1)) with
  | nil => exact absurd hs (splS_ne _ _)
  | cons x t =>
    show ((l.drop bg).take (k - bg) ++ d :: x) :: t = ((l.drop bg).take (k - bg) ++ [d] ++ x) :: t
    rw [List.append_assoc]
    rfl
abbrev splSp : Sp := .nf TU (fun x (c : UInt8) _ => x.1.size ≤ 1048576 ∧ x.2.1 = (c.toNat : Int)) (fun _ _ (y : SlV) => SlV.v y) (fun x c y E E' => Side (Grow 9 1 strC E y ((splS c (bl x.1)).map strB) E'))

set_option maxHeartbeats 2000000 in
set_option maxRecDepth 100000 in
theorem spl_ok : Sp.ok Tryz.prog 67 splSp := by
  refine Sp.nf_ok (T := ⟨[], []⟩) follows eqok0 trivial [] Tryz.func67 rfl (by kernel_rfl) _ _ _ _ fun x c E hp => ?_
  obtain ⟨b, c', u⟩ := x
  obtain ⟨hp, hc⟩ := hp
  dsimp only at hp hc
  subst hc
  have hsz := ba_len b
  obtain ⟨l, hl⟩ : ∃ l, l = b.data.toList := ⟨_, rfl⟩
  have hbl : bl b = l := hl.symm
  rw [← hl] at hsz
  (repeat' ((conv => whnf); (first | with_reducible apply And.intro | (with_reducible intro hh; first | (with_reducible have hx := NewRow.self hh; clear hx) | (with_reducible have hrow := Made.row hh; have hle := Made.le hh; have hmade := hh; clear hh) | (with_reducible have hrow := Fresh.rowS hh; have hle := Fresh.leS hh; have hfr := hh; clear hh) | (with_reducible have hx := Ext.self hh; clear hx) | (with_reducible have hx := SlV.self hh; clear hx) | (with_reducible have hx := Value.self hh; clear hx) | with_reducible cases hh | skip) | (with_reducible apply AllEq.mk; intro yy hq) | with_reducible apply trivial | with_reducible apply Exists.intro () | (with_reducible apply ex_side; (first | with_reducible assumption | with_reducible apply fracs1 | with_reducible apply fracs2 | with_reducible apply fracs3 | with_reducible apply spans1 | with_reducible apply spans2 | (with_reducible apply NewRow.keep; with_reducible assumption) | (with_reducible apply RowAt.keep; with_reducible assumption) | assumption | (focus ((repeat (first | with_reducible assumption | (with_reducible apply RowAt.le; rotate_left; with_reducible assumption) | (with_reducible apply RowB.le; rotate_left; with_reducible assumption))); done)))) | (with_reducible apply ex_side (a := (_, _)); (focus (with_reducible apply And.intro <;> (focus ((repeat (first | with_reducible assumption | (with_reducible apply RowAt.le; rotate_left; with_reducible assumption) | (with_reducible apply RowB.le; rotate_left; with_reducible assumption))); done))))))); (all_goals (conv => whnf)))
  (all_goals (try dsimp only [Q.eta, Sn.eta, SlV.eta] at *)); (all_goals (first | exact Side.mk trivial | with_reducible exact Side.mk rfl | exact Side.mk (fun _ _ h => h) | exact Side.mk (Made.le (by assumption)) | refine Side.mk ?_ | refine Don.mk ?_ | skip))
  have h0 := Grow.fresh0 (c := 1) (en := strC) hh
  revert h0
  generalize hh.b = b0
  generalize hh.to = E0
  intro h0
  clear hh
  have hi : splS c l = [] ++ addH ((l.drop 0).take (0 - 0)) (splS c (l.drop 0)) := by
    rw [List.drop_zero]
    cases hs : splS c l with
    | nil => exact absurd hs (splS_ne _ _)
    | cons x t => rfl
  refine ⟨fun m s => ∃ (k bg : Nat) (i j : Int) (o : SlV) (ps : List (List UInt8)) (E1 : Ext) (wg : Nat → AV) (ww : Nat → Value), m = l.length - k ∧ i = (k : Int) ∧ j = (bg : Int) ∧ bg ≤ k ∧ k ≤ l.length ∧ ps.length ≤ k ∧ splS c l = ps ++ addH ((l.drop bg).take (k - bg)) (splS c (l.drop k)) ∧ Grow 9 1 strC E o (ps.map strB) E1 ∧ s = ⟨[.v (.string b), .v (.int .u8 (c.toNat : Int)), wg 0, wg 1, wg 2, .v (.slice o.a o.n o.c), .v (.int .i64 j), .v (.int .i64 i), wg 3, wg 4, wg 5, wg 6, wg 7, wg 8, wg 9, wg 10, wg 11, wg 12, wg 13, wg 14, wg 15, wg 16, wg 17, wg 18, wg 19, wg 20, wg 21, wg 22, wg 23, wg 24, wg 25, wg 26, wg 27, wg 28, wg 29], [], E1⟩, ⟨_, 0, 0, _, _, ⟨some ⟨b0, 0, none⟩, 0, 0⟩, [], E0, nthA [_, _, _, _, _, _, _, _, _, _, _, _, _, _, _, _, _, _, _, _, _, _, _, _, _, _, _, _, _, _], nthV [], rfl, rfl, rfl, Nat.le_refl _, Nat.zero_le _, Nat.zero_le _, hi, h0, rfl⟩, ?_⟩
  clear h0 hi
  rintro m s ⟨k, bg, i, j, ⟨oa, on, oc⟩, ps, E1, wg, ww, rfl, rfl, rfl, hbk, hk, hpk, hs, hg, rfl⟩
  have hon : on = ps.length := by
    have h1 := hg.own.1
    rw [strC_flat, List.length_map, List.length_map] at h1
    dsimp only at h1
    omega
  rcases hlk : l[k]? with _ | d
  · have hge := List.getElem?_eq_none_iff.1 hlk
    (repeat' ((conv => whnf); (first | with_reducible apply And.intro | (with_reducible intro hh; first | (with_reducible have hx := NewRow.self hh; clear hx) | (with_reducible have hrow := Made.row hh; have hle := Made.le hh; have hmade := hh; clear hh) | (with_reducible have hrow := Fresh.rowS hh; have hle := Fresh.leS hh; have hfr := hh; clear hh) | (with_reducible have hx := Ext.self hh; clear hx) | (with_reducible have hx := SlV.self hh; clear hx) | (with_reducible have hx := Value.self hh; clear hx) | with_reducible cases hh | skip) | (with_reducible apply AllEq.mk; intro yy hq) | with_reducible apply trivial | with_reducible apply Exists.intro () | (with_reducible apply ex_side; (first | with_reducible assumption | with_reducible apply fracs1 | with_reducible apply fracs2 | with_reducible apply fracs3 | with_reducible apply spans1 | with_reducible apply spans2 | (with_reducible apply NewRow.keep; with_reducible assumption) | (with_reducible apply RowAt.keep; with_reducible assumption) | assumption | (focus ((repeat (first | with_reducible assumption | (with_reducible apply RowAt.le; rotate_left; with_reducible assumption) | (with_reducible apply RowB.le; rotate_left; with_reducible assumption))); done)))) | (with_reducible apply ex_side (a := (_, _)); (focus (with_reducible apply And.intro <;> (focus ((repeat (first | with_reducible assumption | (with_reducible apply RowAt.le; rotate_left; with_reducible assumption) | (with_reducible apply RowB.le; rotate_left; with_reducible assumption))); done))))))); (all_goals (conv => whnf)))
    (all_goals (try dsimp only [Q.eta, Sn.eta, SlV.eta] at *)); (all_goals (first | exact Side.mk trivial | with_reducible exact Side.mk rfl | exact Side.mk (fun _ _ h => h) | exact Side.mk (Made.le (by assumption)) | refine Side.mk ?_ | refine Don.mk ?_ | skip))
    all_goals try (exfalso; have := of_decide_eq_true (by assumption : decide ((k : Int) < (b.size : Int)) = true); omega)
    all_goals try exact ⟨by omega, by omega, by omega⟩
    have hx := ba_ext b bg b.size
    refine ⟨((ps.map strB).flatMap strC, [.string (b.extract bg b.size)]), Side.mk ⟨OwnRow.new hh hg.own, cells_new hh rfl, by simp [cellOk], by dsimp only; omega⟩, fun r E2 hpost => ?_⟩
    have hg2 := Grow.push (x := b.extract bg b.size) hg hh hpost
    have he : splS c l = ps ++ [(l.drop bg).take (b.size - bg)] := by
      rw [hs, List.drop_eq_nil_of_le hge, splS, show k = b.size by omega]
      show _ ++ [_ ++ []] = _
      rw [List.append_nil]
    rw [hx, hbl, show ps.map strB ++ [strB ((l.drop bg).take (b.size - bg))] = (splS c l).map strB by rw [he, List.map_append]; rfl] at hg2
    (repeat' ((conv => whnf); (first | with_reducible apply And.intro | (with_reducible intro hh; first | (with_reducible have hx := NewRow.self hh; clear hx) | (with_reducible have hrow := Made.row hh; have hle := Made.le hh; have hmade := hh; clear hh) | (with_reducible have hrow := Fresh.rowS hh; have hle := Fresh.leS hh; have hfr := hh; clear hh) | (with_reducible have hx := Ext.self hh; clear hx) | (with_reducible have hx := SlV.self hh; clear hx) | (with_reducible have hx := Value.self hh; clear hx) | with_reducible cases hh | skip) | (with_reducible apply AllEq.mk; intro yy hq) | with_reducible apply trivial | with_reducible apply Exists.intro () | (with_reducible apply ex_side; (first | with_reducible assumption | with_reducible apply fracs1 | with_reducible apply fracs2 | with_reducible apply fracs3 | with_reducible apply spans1 | with_reducible apply spans2 | (with_reducible apply NewRow.keep; with_reducible assumption) | (with_reducible apply RowAt.keep; with_reducible assumption) | assumption | (focus ((repeat (first | with_reducible assumption | (with_reducible apply RowAt.le; rotate_left; with_reducible assumption) | (with_reducible apply RowB.le; rotate_left; with_reducible assumption))); done)))) | (with_reducible apply ex_side (a := (_, _)); (focus (with_reducible apply And.intro <;> (focus ((repeat (first | with_reducible assumption | (with_reducible apply RowAt.le; rotate_left; with_reducible assumption) | (with_reducible apply RowB.le; rotate_left; with_reducible assumption))); done))))))); (all_goals (conv => whnf)))
    (all_goals (try dsimp only [Q.eta, Sn.eta, SlV.eta] at *)); (all_goals (first | exact Side.mk trivial | with_reducible exact Side.mk rfl | exact Side.mk (fun _ _ h => h) | exact Side.mk (Made.le (by assumption)) | refine Side.mk ?_ | refine Don.mk ?_ | skip))
    rw [hbl]
    exact ⟨r, rfl, Side.mk hg2⟩
  · have hlt := (List.getElem?_eq_some_iff.1 hlk).1
    have h6 : 0 ≤ (k : Int) ∧ b[(k : Int).toNat]? = some d := ⟨by omega, by rw [ba_get, ← hl]; exact hlk⟩
    (repeat' ((conv => whnf); (first | with_reducible apply And.intro | (with_reducible intro hh; first | (with_reducible have hx := NewRow.self hh; clear hx) | (with_reducible have hrow := Made.row hh; have hle := Made.le hh; have hmade := hh; clear hh) | (with_reducible have hrow := Fresh.rowS hh; have hle := Fresh.leS hh; have hfr := hh; clear hh) | (with_reducible have hx := Ext.self hh; clear hx) | (with_reducible have hx := SlV.self hh; clear hx) | (with_reducible have hx := Value.self hh; clear hx) | with_reducible cases hh | skip) | (with_reducible apply AllEq.mk; intro yy hq) | with_reducible apply trivial | with_reducible apply Exists.intro () | (with_reducible apply ex_side; (first | with_reducible assumption | with_reducible apply fracs1 | with_reducible apply fracs2 | with_reducible apply fracs3 | with_reducible apply spans1 | with_reducible apply spans2 | (with_reducible apply NewRow.keep; with_reducible assumption) | (with_reducible apply RowAt.keep; with_reducible assumption) | assumption | (focus ((repeat (first | with_reducible assumption | (with_reducible apply RowAt.le; rotate_left; with_reducible assumption) | (with_reducible apply RowB.le; rotate_left; with_reducible assumption))); done)))) | (with_reducible apply ex_side (a := (_, _)); (focus (with_reducible apply And.intro <;> (focus ((repeat (first | with_reducible assumption | (with_reducible apply RowAt.le; rotate_left; with_reducible assumption) | (with_reducible apply RowB.le; rotate_left; with_reducible assumption))); done))))))); (all_goals (conv => whnf)))
    (all_goals (try dsimp only [Q.eta, Sn.eta, SlV.eta] at *)); (all_goals (first | exact Side.mk trivial | with_reducible exact Side.mk rfl | exact Side.mk (fun _ _ h => h) | exact Side.mk (Made.le (by assumption)) | refine Side.mk ?_ | refine Don.mk ?_ | skip))
    all_goals try (exfalso; have := of_decide_eq_false (by assumption : decide ((k : Int) < (b.size : Int)) = false); omega)
    all_goals try exact ⟨by omega, by omega, by omega⟩
    · have hd : d = c := u8_eq (by assumption)
      have hlk' : l[k]? = some c := by rw [hlk, hd]
      have hx := ba_ext b bg k
      refine ⟨((ps.map strB).flatMap strC, [.string (b.extract bg k)]), Side.mk ⟨OwnRow.new hh hg.own, cells_new hh rfl, by simp [cellOk], by dsimp only; omega⟩, fun r E2 hpost => ?_⟩
      have hg2 := Grow.push (x := b.extract bg k) hg hh hpost
      rw [hx, hbl] at hg2
      (repeat' ((conv => whnf); (first | with_reducible apply And.intro | (with_reducible intro hh; first | (with_reducible have hx := NewRow.self hh; clear hx) | (with_reducible have hrow := Made.row hh; have hle := Made.le hh; have hmade := hh; clear hh) | (with_reducible have hrow := Fresh.rowS hh; have hle := Fresh.leS hh; have hfr := hh; clear hh) | (with_reducible have hx := Ext.self hh; clear hx) | (with_reducible have hx := SlV.self hh; clear hx) | (with_reducible have hx := Value.self hh; clear hx) | with_reducible cases hh | skip) | (with_reducible apply AllEq.mk; intro yy hq) | with_reducible apply trivial | with_reducible apply Exists.intro () | (with_reducible apply ex_side; (first | with_reducible assumption | with_reducible apply fracs1 | with_reducible apply fracs2 | with_reducible apply fracs3 | with_reducible apply spans1 | with_reducible apply spans2 | (with_reducible apply NewRow.keep; with_reducible assumption) | (with_reducible apply RowAt.keep; with_reducible assumption) | assumption | (focus ((repeat (first | with_reducible assumption | (with_reducible apply RowAt.le; rotate_left; with_reducible assumption) | (with_reducible apply RowB.le; rotate_left; with_reducible assumption))); done)))) | (with_reducible apply ex_side (a := (_, _)); (focus (with_reducible apply And.intro <;> (focus ((repeat (first | with_reducible assumption | (with_reducible apply RowAt.le; rotate_left; with_reducible assumption) | (with_reducible apply RowB.le; rotate_left; with_reducible assumption))); done))))))); (all_goals (conv => whnf)))
      (all_goals (try dsimp only [Q.eta, Sn.eta, SlV.eta] at *)); (all_goals (first | exact Side.mk trivial | with_reducible exact Side.mk rfl | exact Side.mk (fun _ _ h => h) | exact Side.mk (Made.le (by assumption)) | refine Side.mk ?_ | refine Don.mk ?_ | skip))
      refine ⟨l.length - (k + 1), by omega, k + 1, k + 1, _, _, r, ps ++ [(l.drop bg).take (k - bg)], E2, nthA [_, _, _, _, _, _, _, _, _, _, _, _, _, _, _, _, _, _, _, _, _, _, _, _, _, _, _, _, _, _], nthV [], rfl, ?_, ?_, Nat.le_refl _, by omega, by rw [List.length_append]; simp; omega, ?_, by rw [List.map_append]; exact hg2, rfl⟩
      · exact (wrap_in (by omega) (by omega)).trans (by omega)
      · exact (wrap_in (by omega) (by omega)).trans (by omega)
      · rw [hs, split_at hbk hlk', List.append_assoc]
        rfl
    · have hd : d ≠ c := u8_ne (by assumption)
      refine ⟨l.length - (k + 1), by omega, k + 1, bg, _, _, ⟨oa, on, oc⟩, ps, E1, nthA [_, _, _, _, _, _, _, _, _, _, _, _, _, _, _, _, _, _, _, _, _, _, _, _, _, _, _, _, _, _], nthV [], rfl, ?_, rfl, by omega, by omega, by omega, ?_, hg, rfl⟩
      · exact (wrap_in (by omega) (by omega)).trans (by omega)
      · rw [hs, split_on hbk hlk hd]
theorem bl_strB (l : List UInt8) : bl (strB l) = l := by simp [bl, strB]
theorem splS_len {c : UInt8} : ∀ {s p : List UInt8}, p ∈ splS c s → p.length ≤ s.length
  | [], p, h => by
    rw [splS] at h
    rw [List.mem_singleton.1 h]
    exact Nat.le_refl _
  | x :: r, p, h => by
    rw [splS] at h
    split at h
    · rcases List.mem_cons.1 h with h | h
      · rw [h]; simp
      · have := splS_len h
        rw [List.length_cons]; omega
    · cases hs : splS c r with
      | nil => exact absurd hs (splS_ne _ _)
      | cons y t =>
        rw [hs] at h
        rcases List.mem_cons.1 h with h | h
        · have h1 : y ∈ splS c r := by rw [hs]; simp
          have := splS_len h1
          rw [h, List.length_cons, List.length_cons]; omega
        · have h1 : p ∈ splS c r := by rw [hs]; exact List.mem_cons_of_mem _ h
          have := splS_len h1
          rw [List.length_cons]; omega
theorem rp1 {a : List UInt8} {t : Bool} (h : (sgnV a).2 = t) : (t && okQ ⟨(sgnV a).1, 1⟩) = (readP [a]).2 := by rw [← h]; rfl
theorem rp2 {a q : List UInt8} {t u v : Bool} (h1 : (sgnV a).2 = t) (h2 : (numV q).2 = u) (h3 : ((numV q).1 != 1) = v) : ((t && u && v) && okQ ⟨(sgnV a).1, (numV q).1⟩) = (readP [a, q]).2 := by
  rw [← h1, ← h2, ← h3]
  have h4 : ((numV q).1 != 1) = decide ((numV q).1 ≠ 1) := by
    by_cases h : (numV q).1 = 1
    · rw [h]; rfl
    · simp [h]
  rw [h4]
  rfl
/-! fractions -/
abbrev rdSp : Sp := .nf T1 (fun x (_ : Unit) _ => x.1.size ≤ 1048576) (fun x _ (y : Q × Bool) => .tuple #[y.1.v, .bool y.2]) (fun x _ y E E' => Keeps E E' ∧ y.2 = (readV (bl x.1)).2 ∧ (y.2 = true → y.1 = (readV (bl x.1)).1))
set_option maxHeartbeats 2000000 in
set_option maxRecDepth 100000 in
theorem rd_ok : Sp.ok Tryz.prog 68 rdSp := by
  refine Sp.nf_ok (T := ⟨[(67, splSp), (107, sgdSp), (85, wholeSp), (108, numbSp), (83, validSp)], []⟩) follows eqok0 ⟨enters Tryz.func67 rfl rfl, spl_ok, enters Tryz.func107 rfl rfl, sgd_ok, enters Tryz.func85 rfl rfl, whole_ok, enters Tryz.func108 rfl rfl, numb_ok, enters Tryz.func83 rfl rfl, spok_ok, trivial⟩ [(10, .take 0 (.take 1 (.take 2 (.take 3 (.alt 4 (.take 5 (.alt 6 (.take 7 (.done)) (.last))) (.last))))))] Tryz.func68 rfl (by kernel_rfl) _ _ _ _ fun x l E hp => ?_
  obtain ⟨b, u⟩ := x
  dsimp only at hp
  have hsz := ba_len b
  (repeat' ((conv => whnf); (first | with_reducible apply And.intro | (with_reducible intro hh; first | (with_reducible have hx := NewRow.self hh; clear hx) | (with_reducible have hrow := Made.row hh; have hle := Made.le hh; have hmade := hh; clear hh) | (with_reducible have hrow := Fresh.rowS hh; have hle := Fresh.leS hh; have hfr := hh; clear hh) | (with_reducible have hx := Ext.self hh; clear hx) | (with_reducible have hx := SlV.self hh; clear hx) | (with_reducible have hx := Value.self hh; clear hx) | with_reducible cases hh | skip) | (with_reducible apply AllEq.mk; intro yy hq) | with_reducible apply trivial | with_reducible apply Exists.intro () | (with_reducible apply ex_side; (first | with_reducible assumption | with_reducible apply fracs1 | with_reducible apply fracs2 | with_reducible apply fracs3 | with_reducible apply spans1 | with_reducible apply spans2 | (with_reducible apply NewRow.keep; with_reducible assumption) | (with_reducible apply RowAt.keep; with_reducible assumption) | assumption | (focus ((repeat (first | with_reducible assumption | (with_reducible apply RowAt.le; rotate_left; with_reducible assumption) | (with_reducible apply RowB.le; rotate_left; with_reducible assumption))); done)))) | (with_reducible apply ex_side (a := (_, _)); (focus (with_reducible apply And.intro <;> (focus ((repeat (first | with_reducible assumption | (with_reducible apply RowAt.le; rotate_left; with_reducible assumption) | (with_reducible apply RowB.le; rotate_left; with_reducible assumption))); done))))))); (all_goals (conv => whnf)))
  (all_goals (try dsimp only [Q.eta, Sn.eta, SlV.eta] at *)); (all_goals (first | exact Side.mk trivial | with_reducible exact Side.mk rfl | exact Side.mk (fun _ _ h => h) | exact Side.mk (Made.le (by assumption)) | refine Side.mk ?_ | refine Don.mk ?_ | skip))
  refine ⟨47, Side.mk ⟨hp, rfl⟩, fun y E1 hs => ?_⟩
  have hg := hs.out
  have hrow := hg.own
  obtain ⟨ya, yn, yc⟩ := y
  obtain ⟨ps, hps⟩ : ∃ ps, ps = splS 47 (bl b) := ⟨_, rfl⟩
  have hR : readV (bl b) = readP ps := by rw [hps]; unfold readV; rfl
  dsimp only at hg hrow
  rw [← hps] at hg hrow
  rw [strC_flat, List.map_map] at hrow
  obtain ⟨g1, g2, g3, g4⟩ := hrow
  dsimp only at g1 g2 g3 g4
  rw [List.length_map] at g1
  have hne : ps ≠ [] := by rw [hps]; exact splS_ne _ _
  have hk := hg.keeps
  cases hpc : ps with
  | nil => exact absurd hpc hne
  | cons a t =>
  rw [hpc] at g1 g4 hR
  rcases g4 with ⟨_, g4, _⟩ | ⟨bb, hbb, ho, hE⟩
  · rw [List.length_cons] at g1; omega
  subst hbb
  have f0 : E1 ((⟨bb, 0, none⟩ : Addr).add (Int.toNat 0 * 1)) = some (.string (strB a)) := hE 0
  have hsa : (strB a).size ≤ 1048576 := by
    rw [strB_size]
    have := splS_len (c := 47) (s := bl b) (p := a) (by rw [← hps, hpc]; simp)
    have h2 : (bl b).length = b.size := hsz.symm
    omega
  cases t with
  | nil =>
    have hyn : yn = 1 := by rw [List.length_cons, List.length_nil] at g1; omega
    subst hyn
    have hsg := bl_strB a
    (repeat' ((conv => whnf); (first | with_reducible apply And.intro | (with_reducible intro hh; first | (with_reducible have hx := NewRow.self hh; clear hx) | (with_reducible have hrow := Made.row hh; have hle := Made.le hh; have hmade := hh; clear hh) | (with_reducible have hrow := Fresh.rowS hh; have hle := Fresh.leS hh; have hfr := hh; clear hh) | (with_reducible have hx := Ext.self hh; clear hx) | (with_reducible have hx := SlV.self hh; clear hx) | (with_reducible have hx := Value.self hh; clear hx) | with_reducible cases hh | skip) | (with_reducible apply AllEq.mk; intro yy hq) | with_reducible apply trivial | with_reducible apply Exists.intro () | (with_reducible apply ex_side; (first | with_reducible assumption | with_reducible apply fracs1 | with_reducible apply fracs2 | with_reducible apply fracs3 | with_reducible apply spans1 | with_reducible apply spans2 | (with_reducible apply NewRow.keep; with_reducible assumption) | (with_reducible apply RowAt.keep; with_reducible assumption) | assumption | (focus ((repeat (first | with_reducible assumption | (with_reducible apply RowAt.le; rotate_left; with_reducible assumption) | (with_reducible apply RowB.le; rotate_left; with_reducible assumption))); done)))) | (with_reducible apply ex_side (a := (_, _)); (focus (with_reducible apply And.intro <;> (focus ((repeat (first | with_reducible assumption | (with_reducible apply RowAt.le; rotate_left; with_reducible assumption) | (with_reducible apply RowB.le; rotate_left; with_reducible assumption))); done))))))); (all_goals (conv => whnf)))
    (all_goals (try dsimp only [Q.eta, Sn.eta, SlV.eta] at *)); (all_goals (first | exact Side.mk trivial | with_reducible exact Side.mk rfl | exact Side.mk (fun _ _ h => h) | exact Side.mk (Made.le (by assumption)) | refine Side.mk ?_ | refine Don.mk ?_ | skip))
    all_goals try (exfalso; exact absurd (by assumption : decide (((1 : Nat) : Int) > 2) = true) (by decide))
    all_goals try (exfalso; exact absurd (by assumption : ((((1 : Nat) : Int)) == 2) = true) (by decide))
    all_goals first | exact ⟨by omega, by omega⟩ | exact hsa | skip
    all_goals refine ⟨(⟨_, _⟩, _), rfl, hk, ?_, ?_⟩
    all_goals rw [hR]
    all_goals try simp only [bl_strB] at *
    all_goals first
      | exact fun _ => rfl
      | exact rp1 (t := true) (by assumption)
      | exact rp1 (t := false) (by assumption)
      | exact rp2 (t := true) (u := true) (v := true) (by assumption) (by assumption) (by assumption)
      | exact rp2 (t := true) (u := true) (v := false) (by assumption) (by assumption) (by assumption)
      | exact rp2 (t := true) (u := false) (by assumption) (by assumption) rfl
      | exact rp2 (t := false) (by assumption) rfl rfl
  | cons q t =>
  have f1 : E1 ((⟨bb, 0, none⟩ : Addr).add (Int.toNat 1 * 1)) = some (.string (strB q)) := hE 1
  have hsq : (strB q).size ≤ 1048576 := by
    rw [strB_size]
    have := splS_len (c := 47) (s := bl b) (p := q) (by rw [← hps, hpc]; simp)
    have h2 : (bl b).length = b.size := hsz.symm
    omega
  cases t with
  | nil =>
    have hyn : yn = 2 := by rw [List.length_cons, List.length_cons, List.length_nil] at g1; omega
    subst hyn
    (repeat' ((conv => whnf); (first | with_reducible apply And.intro | (with_reducible intro hh; first | (with_reducible have hx := NewRow.self hh; clear hx) | (with_reducible have hrow := Made.row hh; have hle := Made.le hh; have hmade := hh; clear hh) | (with_reducible have hrow := Fresh.rowS hh; have hle := Fresh.leS hh; have hfr := hh; clear hh) | (with_reducible have hx := Ext.self hh; clear hx) | (with_reducible have hx := SlV.self hh; clear hx) | (with_reducible have hx := Value.self hh; clear hx) | with_reducible cases hh | skip) | (with_reducible apply AllEq.mk; intro yy hq) | with_reducible apply trivial | with_reducible apply Exists.intro () | (with_reducible apply ex_side; (first | with_reducible assumption | with_reducible apply fracs1 | with_reducible apply fracs2 | with_reducible apply fracs3 | with_reducible apply spans1 | with_reducible apply spans2 | (with_reducible apply NewRow.keep; with_reducible assumption) | (with_reducible apply RowAt.keep; with_reducible assumption) | assumption | (focus ((repeat (first | with_reducible assumption | (with_reducible apply RowAt.le; rotate_left; with_reducible assumption) | (with_reducible apply RowB.le; rotate_left; with_reducible assumption))); done)))) | (with_reducible apply ex_side (a := (_, _)); (focus (with_reducible apply And.intro <;> (focus ((repeat (first | with_reducible assumption | (with_reducible apply RowAt.le; rotate_left; with_reducible assumption) | (with_reducible apply RowB.le; rotate_left; with_reducible assumption))); done))))))); (all_goals (conv => whnf)))
    (all_goals (try dsimp only [Q.eta, Sn.eta, SlV.eta] at *)); (all_goals (first | exact Side.mk trivial | with_reducible exact Side.mk rfl | exact Side.mk (fun _ _ h => h) | exact Side.mk (Made.le (by assumption)) | refine Side.mk ?_ | refine Don.mk ?_ | skip))
    all_goals try (exfalso; exact absurd (by assumption : decide (((2 : Nat) : Int) > 2) = true) (by decide))
    all_goals try (exfalso; exact absurd (by assumption : ((((2 : Nat) : Int)) == 2) = false) (by decide))
    all_goals first | exact ⟨by omega, by omega⟩ | exact hsa | exact hsq | skip
    all_goals refine ⟨(⟨_, _⟩, _), rfl, hk, ?_, ?_⟩
    all_goals rw [hR]
    all_goals try simp only [bl_strB] at *
    all_goals first
      | exact fun _ => rfl
      | exact rp1 (t := true) (by assumption)
      | exact rp1 (t := false) (by assumption)
      | exact rp2 (t := true) (u := true) (v := true) (by assumption) (by assumption) (by assumption)
      | exact rp2 (t := true) (u := true) (v := false) (by assumption) (by assumption) (by assumption)
      | exact rp2 (t := true) (u := false) (by assumption) (by assumption) rfl
      | exact rp2 (t := false) (by assumption) rfl rfl
  | cons z t =>
    have hyn : 2 < yn := by rw [List.length_cons, List.length_cons, List.length_cons] at g1; omega
    (repeat' ((conv => whnf); (first | with_reducible apply And.intro | (with_reducible intro hh; first | (with_reducible have hx := NewRow.self hh; clear hx) | (with_reducible have hrow := Made.row hh; have hle := Made.le hh; have hmade := hh; clear hh) | (with_reducible have hrow := Fresh.rowS hh; have hle := Fresh.leS hh; have hfr := hh; clear hh) | (with_reducible have hx := Ext.self hh; clear hx) | (with_reducible have hx := SlV.self hh; clear hx) | (with_reducible have hx := Value.self hh; clear hx) | with_reducible cases hh | skip) | (with_reducible apply AllEq.mk; intro yy hq) | with_reducible apply trivial | with_reducible apply Exists.intro () | (with_reducible apply ex_side; (first | with_reducible assumption | with_reducible apply fracs1 | with_reducible apply fracs2 | with_reducible apply fracs3 | with_reducible apply spans1 | with_reducible apply spans2 | (with_reducible apply NewRow.keep; with_reducible assumption) | (with_reducible apply RowAt.keep; with_reducible assumption) | assumption | (focus ((repeat (first | with_reducible assumption | (with_reducible apply RowAt.le; rotate_left; with_reducible assumption) | (with_reducible apply RowB.le; rotate_left; with_reducible assumption))); done)))) | (with_reducible apply ex_side (a := (_, _)); (focus (with_reducible apply And.intro <;> (focus ((repeat (first | with_reducible assumption | (with_reducible apply RowAt.le; rotate_left; with_reducible assumption) | (with_reducible apply RowB.le; rotate_left; with_reducible assumption))); done))))))); (all_goals (conv => whnf)))
    (all_goals (try dsimp only [Q.eta, Sn.eta, SlV.eta] at *)); (all_goals (first | exact Side.mk trivial | with_reducible exact Side.mk rfl | exact Side.mk (fun _ _ h => h) | exact Side.mk (Made.le (by assumption)) | refine Side.mk ?_ | refine Don.mk ?_ | skip))
    all_goals try (exfalso; have := of_decide_eq_false (by assumption : decide ((yn : Int) > 2) = false); omega)
    refine ⟨(⟨0, 0⟩, false), rfl, hk, ?_, ?_⟩
    · rw [hR]; rfl
    · intro h; cases h
abbrev rdFSp : Sp := .nf T1 (fun x (_ : Unit) _ => x.1.size ≤ 1048576) (fun x _ (_ : Unit) => RQ (specR (bl x.1))) (fun _ _ _ E E' => Keeps E E')

end Go.Proofs.YtadliapkjijahaaGreatDoor
