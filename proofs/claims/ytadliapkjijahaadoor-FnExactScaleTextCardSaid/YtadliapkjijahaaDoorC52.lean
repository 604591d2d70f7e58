/- The texts of scales, in both packages; for all lists that lie in memory; no other condition. -/
import Derived.Test.YtadliapkjijahaaDoorAb
import Derived.Test.YtadliapkjijahaaDoorC1
import Derived.Test.YtadliapkjijahaaDoorC2
import Derived.Test.YtadliapkjijahaaDoorC3
import Derived.Test.YtadliapkjijahaaDoorC4
import Derived.Test.YtadliapkjijahaaDoorC5
import Derived.Test.YtadliapkjijahaaDoorCL
import Derived.Test.YtadliapkjijahaaDoorC6
import Derived.Test.YtadliapkjijahaaDoorC7
import Derived.Test.YtadliapkjijahaaDoorC8
import Derived.Test.YtadliapkjijahaaDoorC9
import Derived.Test.YtadliapkjijahaaDoorCO
import Derived.Test.YtadliapkjijahaaDoorC10
import Derived.Test.YtadliapkjijahaaDoorC12
import Derived.Test.YtadliapkjijahaaDoorC14
import Derived.Test.YtadliapkjijahaaDoorC15
import Derived.Test.YtadliapkjijahaaDoorC24
import Derived.Test.YtadliapkjijahaaDoorC25
import Derived.Test.YtadliapkjijahaaDoorC30
import Derived.Test.YtadliapkjijahaaDoorCN
import Derived.Test.YtadliapkjijahaaDoorCK
import Derived.Test.YtadliapkjijahaaDoorCG
import Derived.Test.YtadliapkjijahaaDoorCF
import Derived.Test.YtadliapkjijahaaDoorCJ
import Derived.Test.YtadliapkjijahaaDoorC50
import Derived.Test.YtadliapkjijahaaDoorProg
import Derived.Lib.Join
set_option linter.unusedVariables false
set_option linter.unusedSimpArgs false
namespace Go.Proofs.YtadliapkjijahaaDoor
open Ab

open Go.Shelf Go.RowKit Go.Lib Go.Sort
theorem Rel.below {w0 w w' : World} {β0 β : List Nat} {m : Mem} {F0 E : Ext} (h : Rel w0 β0 F0 β m E w) (b : Below w.heap.size w w') : Rel w0 β0 F0 β m E w' := by
  refine ⟨h.ge, b.os.trans h.os, b.tape.trans h.tape, ⟨b.output.trans h.output.1, trivial⟩, Nat.le_trans h.size b.size, fun k hk hn ho => ?_, h.pre, h.nodup, h.len, fun i b' c hi hc => ?_, fun a v ha => ?_, h.dom, h.le0, fun b' p hb => ?_, h.glob⟩
  · rw [b.block k (Nat.lt_of_lt_of_le hk h.size)]
    exact h.old k hk hn ho
  · rw [b.block b' (h.lt (List.mem_of_getElem? hi))]
    exact h.blk i b' c hi hc
  · obtain ⟨h1, h2⟩ := h.ext a v ha
    exact ⟨(cell_of_block (b.block _ (cell_lt h1))).trans h1, h2⟩
  · obtain ⟨g1, g2, cur, g3, g4⟩ := h.own b' p hb
    exact ⟨g1, g2, cur, (b.block b' (h.own_lt hb)).trans g3, g4⟩
/-! strings that are joined -/
def strC (b : ByteArray) : List Value := [.string b]
abbrev SlS : ArgL (SlV × ByteArray × Unit) := .cons .slice (.cons .str .nil)
abbrev joiSp : Sp := .rf SlS (fun x (xs : List ByteArray) E => OwnRow E 9 1 x.1 (xs.flatMap strC) ∧ 1 ≤ xs.length ∧ xs.length ≤ 64 ∧ (Lib.join (xs.map (·.data.toList)) x.2.1.data.toList).length ≤ 1000000) (fun x xs => .string (strB (Lib.join (xs.map (·.data.toList)) x.2.1.data.toList)))
theorem strC_flat (xs : List ByteArray) : xs.flatMap strC = xs.map Value.string := by
  induction xs with
  | nil => rfl
  | cons x r ih => rw [List.flatMap_cons, ih]; rfl
theorem joi_ok : Sp.ok Tryd.prog 61 joiSp := by
  intro bs m E K hk w β vs hR hl hv
  simp only [Sp.rf] at hk
  split at hk
  · rename_i us hus
    split at hk
    · rename_i x hx
      obtain ⟨xs, hp, hk⟩ := hk
      obtain ⟨hrow, h1, h2, h3⟩ := hp.out
      have he := SlS.ok hx
      have hb' := plains_eq hus
      subst hb'
      have hvs := vs_of hl hv
      subst hvs
      obtain ⟨⟨sa, n, c⟩, sep, u⟩ := x
      rw [strC_flat] at hrow
      obtain ⟨g1, g2, g3, g4⟩ := hrow
      dsimp only at g1 g2 g3 g4 h3
      rw [List.length_map] at g1
      have hn : n = xs.length := by omega
      subst hn
      rcases g4 with ⟨_, g4, _⟩ | ⟨b, rfl, ho, hE⟩
      · omega
      have hus' : us.toArray = #[.slice (some ⟨b, 0, none⟩) xs.length c, .string sep] := by rw [he]; rfl
      rw [hus']
      have hcells : ∀ (j : Nat) (y : ByteArray), xs[j]? = some y → w.cell? ⟨b, 0 + j, none⟩ = some (.string y) := fun j y hj => by
        rw [Nat.zero_add]
        exact (hR.ext ⟨b, j, none⟩ _ ((hE j).trans (by rw [List.getElem?_map, hj]; rfl))).1
      have hcon := Any.strings_Join joinF joinX b 0 c xs sep w hcells (hR.own_lt ho) (by omega) g2 (by omega)
      refine Calls.mono (show Calls Tryd.prog 61 _ w _ from hcon) ?_
      rintro e w' ⟨rfl, hbel⟩
      exact ⟨.v (.string ⟨(Lib.join (xs.map fun y : ByteArray => y.data.toList) sep.data.toList).toArray⟩), m, E, β, _, rfl, rfl, Rel.below hR hbel, hk⟩
    · cases hk
  · cases hk
/-! scales' texts -/
def lineL (u : Q) (l : List Q) : List UInt8 := txtQ u ++ Lib.joinTail [32] (l.map txtQ)
theorem lineL_push {u : Q} {l : List Q} {k : Nat} {e : Q} (h : l[k]? = some e) : strB (lineL u (l.take k)) ++ ((⟨#[32]⟩ : ByteArray) ++ strB (txtQ e)) = strB (lineL u (l.take (k + 1))) := by
  have h1 : (l.map txtQ)[k]? = some (txtQ e) := by rw [List.getElem?_map, h]; rfl
  have h2 := Lib.joinTail_take_succ [32] (l.map txtQ) k (txtQ e) h1
  rw [show (⟨#[32]⟩ : ByteArray) = strB [32] from rfl, strB_append, strB_append, lineL, lineL, List.map_take, List.map_take, h2]
  simp
theorem lens_le {l : List Q} (h : ∀ a ∈ l, okQ a = true) : Lib.lens (l.map txtQ) ≤ 43 * l.length := by
  induction l with
  | nil => simp [Lib.lens]
  | cons a l ih =>
    have h1 := txtQ_len (h a (List.mem_cons_self ..))
    have h2 := ih fun b hb => h b (List.mem_cons_of_mem _ hb)
    simp only [Lib.lens, List.map_cons, List.sum_cons, List.length_cons] at h2 ⊢
    omega
theorem lineL_len {u : Q} {l : List Q} (hu : okQ u = true) (h : ∀ a ∈ l, okQ a = true) : (lineL u l).length ≤ 43 + 44 * l.length := by
  have h1 := txtQ_len hu
  have h2 := lens_le h
  rw [lineL, List.length_append, Lib.joinTail_length]
  simp only [List.length_map, List.length_singleton]
  omega
theorem size32 : (⟨#[32]⟩ : ByteArray).size = 1 := rfl
theorem allOk_mem' {l : List Q} (h : allOk l = true) : ∀ a ∈ l, okQ a = true := fun a ha => by
  unfold allOk at h
  exact List.all_eq_true.1 h a ha
def ctxt (u : Q) (l : List Q) : List UInt8 := if okC u l then lineL u l else []
abbrev clinSp : Sp := .hf sclL 42 .nil (fun s _ (l : List Q) E => FracsAt s.errs l E ∧ okQ s.unit = true ∧ allOk l = true ∧ l.length ≤ 64) (fun s _ l => .string (strB (lineL s.unit l)))

set_option maxHeartbeats 2000000 in
set_option maxRecDepth 100000 in
theorem clin_ok : Sp.ok Tryd.prog 34 clinSp := by
  refine Sp.hf_ok (T := ⟨[(26, ltxtSp)], []⟩) follows eqok0 ⟨enters Tryd.func26 rfl rfl, ltxt_ok, trivial⟩ [] Tryd.func34 rfl (by kernel_rfl) _ _ _ _ _ fun s x l E hp => ?_
  obtain ⟨⟨a, b⟩, ⟨sa, n, c⟩⟩ := s
  obtain ⟨hp, hu, hA, h64⟩ := hp
  dsimp only at hp hu
  have hn := hp.1
  dsimp only at hn
  (repeat' ((conv => whnf); (first | with_reducible apply And.intro | (with_reducible intro hh; first | (with_reducible have hx := NewRow.self hh; clear hx) | (with_reducible have hrow := Made.row hh; have hle := Made.le hh; have hmade := hh; clear hh) | (with_reducible have hrow := Fresh.rowS hh; have hle := Fresh.leS hh; have hfr := hh; clear hh) | (with_reducible have hx := Ext.self hh; clear hx) | (with_reducible have hx := SlV.self hh; clear hx) | (with_reducible have hx := Value.self hh; clear hx) | with_reducible cases hh | skip) | (with_reducible apply AllEq.mk; intro yy hq) | with_reducible apply trivial | with_reducible apply Exists.intro () | (with_reducible apply ex_side; (first | with_reducible assumption | with_reducible apply fracs1 | with_reducible apply fracs2 | with_reducible apply fracs3 | with_reducible apply spans1 | with_reducible apply spans2 | (with_reducible apply NewRow.keep; with_reducible assumption) | (with_reducible apply RowAt.keep; with_reducible assumption) | assumption | (focus ((repeat (first | with_reducible assumption | (with_reducible apply RowAt.le; rotate_left; with_reducible assumption) | (with_reducible apply RowB.le; rotate_left; with_reducible assumption))); done)))) | (with_reducible apply ex_side (a := (_, _)); (focus (with_reducible apply And.intro <;> (focus ((repeat (first | with_reducible assumption | (with_reducible apply RowAt.le; rotate_left; with_reducible assumption) | (with_reducible apply RowB.le; rotate_left; with_reducible assumption))); done))))))); (all_goals (conv => whnf)))
  (all_goals (try dsimp only [Q.eta, Sn.eta, SlV.eta] at *)); (all_goals (first | exact Side.mk trivial | with_reducible exact Side.mk rfl | exact Side.mk (fun _ _ h => h) | exact Side.mk (Made.le (by assumption)) | refine Side.mk ?_ | refine Don.mk ?_ | skip))
  · exact hu
  have hall := allOk_mem' hA
  refine ⟨fun m s => ∃ (k : Nat) (i : Int) (tx : ByteArray) (wg : Nat → AV) (ww : Nat → Value), m = l.length - k ∧ k ≤ l.length ∧ i = (k : Int) ∧ tx = strB (lineL ⟨a, b⟩ (l.take k)) ∧ s = ⟨[.p 0 0, wg 0, wg 1, .v (.string tx), .v (.int .i64 i), wg 2, wg 3, wg 4, wg 5, wg 6, wg 7, wg 8, wg 9, wg 10, wg 11, wg 12, wg 13, wg 14, wg 15, wg 16, wg 17, wg 18, wg 19, wg 20, wg 21, wg 22, wg 23, wg 24, wg 25, wg 26, wg 27], [([.int .i64 a, .int .i64 b, .slice sa n c], 42)], E⟩, ⟨_, 0, _, strB (txtQ ⟨a, b⟩), nthA [_, _, _, _, _, _, _, _, _, _, _, _, _, _, _, _, _, _, _, _, _, _, _, _, _, _, _, _], nthV [], rfl, Nat.zero_le _, rfl, by simp [lineL, Lib.joinTail], rfl⟩, ?_⟩
  rintro m s ⟨k, i, tx, wg, ww, rfl, hk, rfl, htx, rfl⟩
  rcases hlk : l[k]? with _ | e
  · have hge := List.getElem?_eq_none_iff.1 hlk
    rw [List.take_of_length_le hge] at htx
    (repeat' ((conv => whnf); (first | with_reducible apply And.intro | (with_reducible intro hh; first | (with_reducible have hx := NewRow.self hh; clear hx) | (with_reducible have hrow := Made.row hh; have hle := Made.le hh; have hmade := hh; clear hh) | (with_reducible have hrow := Fresh.rowS hh; have hle := Fresh.leS hh; have hfr := hh; clear hh) | (with_reducible have hx := Ext.self hh; clear hx) | (with_reducible have hx := SlV.self hh; clear hx) | (with_reducible have hx := Value.self hh; clear hx) | with_reducible cases hh | skip) | (with_reducible apply AllEq.mk; intro yy hq) | with_reducible apply trivial | with_reducible apply Exists.intro () | (with_reducible apply ex_side; (first | with_reducible assumption | with_reducible apply fracs1 | with_reducible apply fracs2 | with_reducible apply fracs3 | with_reducible apply spans1 | with_reducible apply spans2 | (with_reducible apply NewRow.keep; with_reducible assumption) | (with_reducible apply RowAt.keep; with_reducible assumption) | assumption | (focus ((repeat (first | with_reducible assumption | (with_reducible apply RowAt.le; rotate_left; with_reducible assumption) | (with_reducible apply RowB.le; rotate_left; with_reducible assumption))); done)))) | (with_reducible apply ex_side (a := (_, _)); (focus (with_reducible apply And.intro <;> (focus ((repeat (first | with_reducible assumption | (with_reducible apply RowAt.le; rotate_left; with_reducible assumption) | (with_reducible apply RowB.le; rotate_left; with_reducible assumption))); done))))))); (all_goals (conv => whnf)))
    (all_goals (try dsimp only [Q.eta, Sn.eta, SlV.eta] at *)); (all_goals (first | exact Side.mk trivial | with_reducible exact Side.mk rfl | exact Side.mk (fun _ _ h => h) | exact Side.mk (Made.le (by assumption)) | refine Side.mk ?_ | refine Don.mk ?_ | skip))
    all_goals first | (exfalso; have := of_decide_eq_true (by assumption : decide ((k : Int) < (n : Int)) = true); omega) | skip
    rw [htx]
    exact ⟨rfl, rfl⟩
  · have hlt := (List.getElem?_eq_some_iff.1 hlk).1
    have he := hall e (List.mem_of_getElem? hlk)
    have l1 := lineL_len (l := l.take k) hu (fun a ha => hall a (List.mem_of_mem_take ha))
    have l2 := txtQ_len he
    rw [List.length_take] at l1
    have hpu := lineL_push (u := ⟨a, b⟩) hlk
    cases sa with
    | none => have := hp.2.2.1 rfl; rw [this] at hlk; cases hlk
    | some ad =>
    obtain ⟨g0, g1⟩ := FracsAt.at hp (a := ad) rfl hlk
    (repeat' ((conv => whnf); (first | with_reducible apply And.intro | (with_reducible intro hh; first | (with_reducible have hx := NewRow.self hh; clear hx) | (with_reducible have hrow := Made.row hh; have hle := Made.le hh; have hmade := hh; clear hh) | (with_reducible have hrow := Fresh.rowS hh; have hle := Fresh.leS hh; have hfr := hh; clear hh) | (with_reducible have hx := Ext.self hh; clear hx) | (with_reducible have hx := SlV.self hh; clear hx) | (with_reducible have hx := Value.self hh; clear hx) | with_reducible cases hh | skip) | (with_reducible apply AllEq.mk; intro yy hq) | with_reducible apply trivial | with_reducible apply Exists.intro () | (with_reducible apply ex_side; (first | with_reducible assumption | with_reducible apply fracs1 | with_reducible apply fracs2 | with_reducible apply fracs3 | with_reducible apply spans1 | with_reducible apply spans2 | (with_reducible apply NewRow.keep; with_reducible assumption) | (with_reducible apply RowAt.keep; with_reducible assumption) | assumption | (focus ((repeat (first | with_reducible assumption | (with_reducible apply RowAt.le; rotate_left; with_reducible assumption) | (with_reducible apply RowB.le; rotate_left; with_reducible assumption))); done)))) | (with_reducible apply ex_side (a := (_, _)); (focus (with_reducible apply And.intro <;> (focus ((repeat (first | with_reducible assumption | (with_reducible apply RowAt.le; rotate_left; with_reducible assumption) | (with_reducible apply RowB.le; rotate_left; with_reducible assumption))); done))))))); (all_goals (conv => whnf)))
    (all_goals (try dsimp only [Q.eta, Sn.eta, SlV.eta] at *)); (all_goals (first | exact Side.mk trivial | with_reducible exact Side.mk rfl | exact Side.mk (fun _ _ h => h) | exact Side.mk (Made.le (by assumption)) | refine Side.mk ?_ | refine Don.mk ?_ | skip))
    all_goals try (exfalso; have := of_decide_eq_false (by assumption : decide ((k : Int) < (n : Int)) = false); omega)
    all_goals first | exact ⟨by omega, by omega⟩ | exact he | (simp only [htx, ba_app, strB_size, size32]; omega) | skip
    refine ⟨l.length - (k + 1), by omega, k + 1, _, _, nthA [_, _, _, _, _, _, _, _, _, _, _, _, _, _, _, _, _, _, _, _, _, _, _, _, _, _, _, _], nthV [], rfl, by omega, ?_, ?_, rfl⟩
    · exact (wrap_in (by omega) (by omega)).trans (by omega)
    · rw [htx]
      exact hpu
theorem ctxt_no {u : Q} {l : List Q} (h : okC u l = false) : AV.v (Value.string ⟨#[]⟩) = AV.v (Value.string (strB (ctxt u l))) := by rw [ctxt, if_neg (by rw [h]; decide)]; rfl
abbrev ctxtSp : Sp := .rf C1A (fun x (l : List Q) E => FracsAt x.1.errs l E) (fun x l => .string (strB (ctxt x.1.unit l)))
set_option maxRecDepth 100000 in
theorem sctxt_ok : Sp.ok Tryd.prog 15 ctxtSp := by
  refine Sp.rf_ok (T := ⟨[(33, scaleOkSp), (34, clinSp)], []⟩) follows eqok0 ⟨enters Tryd.func33 rfl rfl, scaleOk_ok, enters Tryd.func34 rfl rfl, clin_ok, trivial⟩ [] Tryd.func15 rfl (by kernel_rfl) _ _ _ fun x l E hp => ?_
  obtain ⟨⟨⟨a, b⟩, ⟨sa, n, c⟩⟩, u⟩ := x
  dsimp only at hp
  by_cases hok : okC ⟨a, b⟩ l = true
  · obtain ⟨k1, k2, k3, k4, k5, _⟩ := okC_iff hok
    have hR : FracsAt ⟨sa, n, c⟩ l E ∧ okQ ⟨a, b⟩ = true ∧ allOk l = true ∧ l.length ≤ 64 := ⟨hp, k1, k5, by omega⟩
    have hno : ¬ (!okC ⟨a, b⟩ l) = true := by rw [hok]; decide
    (repeat' ((conv => whnf); (first | with_reducible apply And.intro | (with_reducible intro hh; first | (with_reducible have hx := NewRow.self hh; clear hx) | (with_reducible have hrow := Made.row hh; have hle := Made.le hh; have hmade := hh; clear hh) | (with_reducible have hrow := Fresh.rowS hh; have hle := Fresh.leS hh; have hfr := hh; clear hh) | (with_reducible have hx := Ext.self hh; clear hx) | (with_reducible have hx := SlV.self hh; clear hx) | (with_reducible have hx := Value.self hh; clear hx) | with_reducible cases hh | skip) | (with_reducible apply AllEq.mk; intro yy hq) | with_reducible apply trivial | with_reducible apply Exists.intro () | (with_reducible apply ex_side; (first | with_reducible assumption | with_reducible apply fracs1 | with_reducible apply fracs2 | with_reducible apply fracs3 | with_reducible apply spans1 | with_reducible apply spans2 | (with_reducible apply NewRow.keep; with_reducible assumption) | (with_reducible apply RowAt.keep; with_reducible assumption) | assumption | (focus ((repeat (first | with_reducible assumption | (with_reducible apply RowAt.le; rotate_left; with_reducible assumption) | (with_reducible apply RowB.le; rotate_left; with_reducible assumption))); done)))) | (with_reducible apply ex_side (a := (_, _)); (focus (with_reducible apply And.intro <;> (focus ((repeat (first | with_reducible assumption | (with_reducible apply RowAt.le; rotate_left; with_reducible assumption) | (with_reducible apply RowB.le; rotate_left; with_reducible assumption))); done))))))); (all_goals (conv => whnf)))
    (all_goals (try dsimp only [Q.eta, Sn.eta, SlV.eta] at *)); (all_goals (first | exact Side.mk trivial | with_reducible exact Side.mk rfl | exact Side.mk (fun _ _ h => h) | exact Side.mk (Made.le (by assumption)) | refine Side.mk ?_ | refine Don.mk ?_ | skip))
    all_goals first | (exfalso; exact hno (by assumption)) | (rw [ctxt, if_pos hok]) | skip
  · have hno : ¬ (!okC ⟨a, b⟩ l) = false := by simpa using hok
    (repeat' ((conv => whnf); (first | with_reducible apply And.intro | (with_reducible intro hh; first | (with_reducible have hx := NewRow.self hh; clear hx) | (with_reducible have hrow := Made.row hh; have hle := Made.le hh; have hmade := hh; clear hh) | (with_reducible have hrow := Fresh.rowS hh; have hle := Fresh.leS hh; have hfr := hh; clear hh) | (with_reducible have hx := Ext.self hh; clear hx) | (with_reducible have hx := SlV.self hh; clear hx) | (with_reducible have hx := Value.self hh; clear hx) | with_reducible cases hh | skip) | (with_reducible apply AllEq.mk; intro yy hq) | with_reducible apply trivial | with_reducible apply Exists.intro () | (with_reducible apply ex_side; (first | with_reducible assumption | with_reducible apply fracs1 | with_reducible apply fracs2 | with_reducible apply fracs3 | with_reducible apply spans1 | with_reducible apply spans2 | (with_reducible apply NewRow.keep; with_reducible assumption) | (with_reducible apply RowAt.keep; with_reducible assumption) | assumption | (focus ((repeat (first | with_reducible assumption | (with_reducible apply RowAt.le; rotate_left; with_reducible assumption) | (with_reducible apply RowB.le; rotate_left; with_reducible assumption))); done)))) | (with_reducible apply ex_side (a := (_, _)); (focus (with_reducible apply And.intro <;> (focus ((repeat (first | with_reducible assumption | (with_reducible apply RowAt.le; rotate_left; with_reducible assumption) | (with_reducible apply RowB.le; rotate_left; with_reducible assumption))); done))))))); (all_goals (conv => whnf)))
    (all_goals (try dsimp only [Q.eta, Sn.eta, SlV.eta] at *)); (all_goals (first | exact Side.mk trivial | with_reducible exact Side.mk rfl | exact Side.mk (fun _ _ h => h) | exact Side.mk (Made.le (by assumption)) | refine Side.mk ?_ | refine Don.mk ?_ | skip))
    all_goals first | (exfalso; exact hno (by assumption)) | exact ctxt_no (by simpa using hok) | skip
/-! the library's joining -/
def strs (l : List Q) : List ByteArray := l.map fun a => strB (ftxt a)
theorem strs_push {l : List Q} {k : Nat} {e : Q} (h : l[k]? = some e) : strs (l.take (k + 1)) = strs (l.take k) ++ [strB (ftxt e)] := by
  unfold strs
  rw [List.take_add_one, h, List.map_append]
  rfl
theorem strs_data (l : List Q) : (strs l).map (fun y : ByteArray => y.data.toList) = l.map ftxt := by
  unfold strs
  rw [List.map_map]
  exact List.map_congr_left fun a _ => by simp [strB]
theorem ftxt_len (a : Q) : (ftxt a).length ≤ 43 := by
  by_cases h : okQ a = true
  · rw [ftxt_yes h]; exact txtQ_len h
  · rw [ftxt_no (by simpa using h)]; simp
theorem flens_le (l : List Q) : Lib.lens (l.map ftxt) ≤ 43 * l.length := by
  induction l with
  | nil => simp [Lib.lens]
  | cons a l ih =>
    have h1 := ftxt_len a
    simp only [Lib.lens, List.map_cons, List.sum_cons, List.length_cons] at ih ⊢
    omega
theorem fjoin_len (l : List Q) : (Lib.join (l.map ftxt) [32]).length ≤ 44 * l.length := by
  cases l with
  | nil => simp [Lib.join, List.intercalate]
  | cons a r =>
    have h1 := flens_le (a :: r)
    rw [List.map_cons, Lib.join_cons, List.length_append, Lib.joinTail_length]
    simp only [Lib.lens, List.map_cons, List.sum_cons, List.length_cons, List.length_map, List.length_nil] at h1 ⊢
    omega
theorem strs_flen (l : List Q) : ((strs l).flatMap strC).length = l.length := by rw [strC_flat, List.length_map, strs, List.length_map]
abbrev ftsSp : Sp := .nf FS (fun x (l : List Q) E => FracsAt x.1 l E ∧ 1 ≤ l.length ∧ l.length ≤ 64) (fun _ l (_ : Unit) => .string (strB (Lib.join (l.map ftxt) [32]))) (fun _ _ _ E E' => Keeps E E')

set_option maxHeartbeats 2000000 in
set_option maxRecDepth 100000 in
theorem fts_ok : Sp.ok Tryd.prog 37 ftsSp := by
  refine Sp.nf_ok (T := ⟨[(10, ftxtSp), (61, joiSp)], []⟩) follows eqok0 ⟨enters Tryd.func10 rfl rfl, iftxt_ok, enters Tryd.func61 rfl rfl, joi_ok, trivial⟩ [] Tryd.func37 rfl (by kernel_rfl) _ _ _ _ fun x l E hp => ?_
  obtain ⟨⟨sa, n, c⟩, u⟩ := x
  obtain ⟨hp, hl1, hl2⟩ := hp
  dsimp only at hp
  have hn := hp.1
  dsimp only at hn
  (repeat' ((conv => whnf); (first | with_reducible apply And.intro | (with_reducible intro hh; first | (with_reducible have hx := NewRow.self hh; clear hx) | (with_reducible have hrow := Made.row hh; have hle := Made.le hh; have hmade := hh; clear hh) | (with_reducible have hrow := Fresh.rowS hh; have hle := Fresh.leS hh; have hfr := hh; clear hh) | (with_reducible have hx := Ext.self hh; clear hx) | (with_reducible have hx := SlV.self hh; clear hx) | (with_reducible have hx := Value.self hh; clear hx) | with_reducible cases hh | skip) | (with_reducible apply AllEq.mk; intro yy hq) | with_reducible apply trivial | with_reducible apply Exists.intro () | (with_reducible apply ex_side; (first | with_reducible assumption | with_reducible apply fracs1 | with_reducible apply fracs2 | with_reducible apply fracs3 | with_reducible apply spans1 | with_reducible apply spans2 | (with_reducible apply NewRow.keep; with_reducible assumption) | (with_reducible apply RowAt.keep; with_reducible assumption) | assumption | (focus ((repeat (first | with_reducible assumption | (with_reducible apply RowAt.le; rotate_left; with_reducible assumption) | (with_reducible apply RowB.le; rotate_left; with_reducible assumption))); done)))) | (with_reducible apply ex_side (a := (_, _)); (focus (with_reducible apply And.intro <;> (focus ((repeat (first | with_reducible assumption | (with_reducible apply RowAt.le; rotate_left; with_reducible assumption) | (with_reducible apply RowB.le; rotate_left; with_reducible assumption))); done))))))); (all_goals (conv => whnf)))
  (all_goals (try dsimp only [Q.eta, Sn.eta, SlV.eta] at *)); (all_goals (first | exact Side.mk trivial | with_reducible exact Side.mk rfl | exact Side.mk (fun _ _ h => h) | exact Side.mk (Made.le (by assumption)) | refine Side.mk ?_ | refine Don.mk ?_ | skip))
  have h0 := Grow.fresh0 (c := 1) (en := strC) hh
  revert h0
  generalize hh.b = b0
  generalize hh.to = E0
  intro h0
  clear hh
  refine ⟨fun m s => ∃ (k : Nat) (i : Int) (o : SlV) (E1 : Ext) (wg : Nat → AV) (ww : Nat → Value), m = n - k ∧ i = (k : Int) ∧ k ≤ n ∧ Grow 9 1 strC E o (strs (l.take k)) E1 ∧ s = ⟨[wg 0, wg 1, wg 2, .v (.slice o.a o.n o.c), wg 3, wg 4, wg 5, .v (.slice sa n c), .v (.int .i64 (n : Int)), .v (.int .i64 i), wg 6, wg 7, wg 8, wg 9, wg 10, wg 11, wg 12, wg 13, wg 14, wg 15, wg 16], [], E1⟩, ⟨_, 0, _, ⟨some ⟨b0, 0, none⟩, 0, 0⟩, E0, nthA [_, _, _, _, _, _, _, _, _, _, _, _, _, _, _, _, _], nthV [], rfl, rfl, Nat.zero_le _, h0, rfl⟩, ?_⟩
  clear h0
  rintro m s ⟨k, i, ⟨oa, on, oc⟩, E1, wg, ww, rfl, rfl, hk, hg, rfl⟩
  rcases hlk : l[k]? with _ | e
  · have hge := List.getElem?_eq_none_iff.1 hlk
    rw [List.take_of_length_le hge] at hg
    (repeat' ((conv => whnf); (first | with_reducible apply And.intro | (with_reducible intro hh; first | (with_reducible have hx := NewRow.self hh; clear hx) | (with_reducible have hrow := Made.row hh; have hle := Made.le hh; have hmade := hh; clear hh) | (with_reducible have hrow := Fresh.rowS hh; have hle := Fresh.leS hh; have hfr := hh; clear hh) | (with_reducible have hx := Ext.self hh; clear hx) | (with_reducible have hx := SlV.self hh; clear hx) | (with_reducible have hx := Value.self hh; clear hx) | with_reducible cases hh | skip) | (with_reducible apply AllEq.mk; intro yy hq) | with_reducible apply trivial | with_reducible apply Exists.intro () | (with_reducible apply ex_side; (first | with_reducible assumption | with_reducible apply fracs1 | with_reducible apply fracs2 | with_reducible apply fracs3 | with_reducible apply spans1 | with_reducible apply spans2 | (with_reducible apply NewRow.keep; with_reducible assumption) | (with_reducible apply RowAt.keep; with_reducible assumption) | assumption | (focus ((repeat (first | with_reducible assumption | (with_reducible apply RowAt.le; rotate_left; with_reducible assumption) | (with_reducible apply RowB.le; rotate_left; with_reducible assumption))); done)))) | (with_reducible apply ex_side (a := (_, _)); (focus (with_reducible apply And.intro <;> (focus ((repeat (first | with_reducible assumption | (with_reducible apply RowAt.le; rotate_left; with_reducible assumption) | (with_reducible apply RowB.le; rotate_left; with_reducible assumption))); done))))))); (all_goals (conv => whnf)))
    (all_goals (try dsimp only [Q.eta, Sn.eta, SlV.eta] at *)); (all_goals (first | exact Side.mk trivial | with_reducible exact Side.mk rfl | exact Side.mk (fun _ _ h => h) | exact Side.mk (Made.le (by assumption)) | refine Side.mk ?_ | refine Don.mk ?_ | skip))
    all_goals try (exfalso; have := of_decide_eq_true (by assumption : decide ((k : Int) < (n : Int)) = true); omega)
    have hlen := fjoin_len l
    refine ⟨strs l, Side.mk ⟨hg.own, by rw [strs, List.length_map]; omega, by rw [strs, List.length_map]; omega, by rw [strs_data]; omega⟩, ?_⟩
    rw [strs_data]
    (repeat' ((conv => whnf); (first | with_reducible apply And.intro | (with_reducible intro hh; first | (with_reducible have hx := NewRow.self hh; clear hx) | (with_reducible have hrow := Made.row hh; have hle := Made.le hh; have hmade := hh; clear hh) | (with_reducible have hrow := Fresh.rowS hh; have hle := Fresh.leS hh; have hfr := hh; clear hh) | (with_reducible have hx := Ext.self hh; clear hx) | (with_reducible have hx := SlV.self hh; clear hx) | (with_reducible have hx := Value.self hh; clear hx) | with_reducible cases hh | skip) | (with_reducible apply AllEq.mk; intro yy hq) | with_reducible apply trivial | with_reducible apply Exists.intro () | (with_reducible apply ex_side; (first | with_reducible assumption | with_reducible apply fracs1 | with_reducible apply fracs2 | with_reducible apply fracs3 | with_reducible apply spans1 | with_reducible apply spans2 | (with_reducible apply NewRow.keep; with_reducible assumption) | (with_reducible apply RowAt.keep; with_reducible assumption) | assumption | (focus ((repeat (first | with_reducible assumption | (with_reducible apply RowAt.le; rotate_left; with_reducible assumption) | (with_reducible apply RowB.le; rotate_left; with_reducible assumption))); done)))) | (with_reducible apply ex_side (a := (_, _)); (focus (with_reducible apply And.intro <;> (focus ((repeat (first | with_reducible assumption | (with_reducible apply RowAt.le; rotate_left; with_reducible assumption) | (with_reducible apply RowB.le; rotate_left; with_reducible assumption))); done))))))); (all_goals (conv => whnf)))
    (all_goals (try dsimp only [Q.eta, Sn.eta, SlV.eta] at *)); (all_goals (first | exact Side.mk trivial | with_reducible exact Side.mk rfl | exact Side.mk (fun _ _ h => h) | exact Side.mk (Made.le (by assumption)) | refine Side.mk ?_ | refine Don.mk ?_ | skip))
    exact ⟨(), rfl, hg.keeps⟩
  · have hlt := (List.getElem?_eq_some_iff.1 hlk).1
    cases sa with
    | none => have := hp.2.2.1 rfl; rw [this] at hlk; cases hlk
    | some ad =>
    obtain ⟨g0, g1⟩ := FracsAt.at (hp.le hg.le) (a := ad) rfl hlk
    (repeat' ((conv => whnf); (first | with_reducible apply And.intro | (with_reducible intro hh; first | (with_reducible have hx := NewRow.self hh; clear hx) | (with_reducible have hrow := Made.row hh; have hle := Made.le hh; have hmade := hh; clear hh) | (with_reducible have hrow := Fresh.rowS hh; have hle := Fresh.leS hh; have hfr := hh; clear hh) | (with_reducible have hx := Ext.self hh; clear hx) | (with_reducible have hx := SlV.self hh; clear hx) | (with_reducible have hx := Value.self hh; clear hx) | with_reducible cases hh | skip) | (with_reducible apply AllEq.mk; intro yy hq) | with_reducible apply trivial | with_reducible apply Exists.intro () | (with_reducible apply ex_side; (first | with_reducible assumption | with_reducible apply fracs1 | with_reducible apply fracs2 | with_reducible apply fracs3 | with_reducible apply spans1 | with_reducible apply spans2 | (with_reducible apply NewRow.keep; with_reducible assumption) | (with_reducible apply RowAt.keep; with_reducible assumption) | assumption | (focus ((repeat (first | with_reducible assumption | (with_reducible apply RowAt.le; rotate_left; with_reducible assumption) | (with_reducible apply RowB.le; rotate_left; with_reducible assumption))); done)))) | (with_reducible apply ex_side (a := (_, _)); (focus (with_reducible apply And.intro <;> (focus ((repeat (first | with_reducible assumption | (with_reducible apply RowAt.le; rotate_left; with_reducible assumption) | (with_reducible apply RowB.le; rotate_left; with_reducible assumption))); done))))))); (all_goals (conv => whnf)))
    (all_goals (try dsimp only [Q.eta, Sn.eta, SlV.eta] at *)); (all_goals (first | exact Side.mk trivial | with_reducible exact Side.mk rfl | exact Side.mk (fun _ _ h => h) | exact Side.mk (Made.le (by assumption)) | refine Side.mk ?_ | refine Don.mk ?_ | skip))
    all_goals try (exfalso; have := of_decide_eq_false (by assumption : decide ((k : Int) < (n : Int)) = false); omega)
    all_goals try exact ⟨by omega, by omega⟩
    have hon : on = k := by
      have h1 := hg.own.1
      rw [strs_flen, List.length_take] at h1
      dsimp only at h1
      omega
    refine ⟨((strs (l.take k)).flatMap strC, [.string (strB (ftxt e))]), Side.mk ⟨OwnRow.new hh hg.own, cells_new hh rfl, by simp [cellOk], by dsimp only; omega⟩, fun r E2 hpost => ?_⟩
    have hg2 := Grow.push (x := strB (ftxt e)) hg hh hpost
    rw [← strs_push hlk] at hg2
    (repeat' ((conv => whnf); (first | with_reducible apply And.intro | (with_reducible intro hh; first | (with_reducible have hx := NewRow.self hh; clear hx) | (with_reducible have hrow := Made.row hh; have hle := Made.le hh; have hmade := hh; clear hh) | (with_reducible have hrow := Fresh.rowS hh; have hle := Fresh.leS hh; have hfr := hh; clear hh) | (with_reducible have hx := Ext.self hh; clear hx) | (with_reducible have hx := SlV.self hh; clear hx) | (with_reducible have hx := Value.self hh; clear hx) | with_reducible cases hh | skip) | (with_reducible apply AllEq.mk; intro yy hq) | with_reducible apply trivial | with_reducible apply Exists.intro () | (with_reducible apply ex_side; (first | with_reducible assumption | with_reducible apply fracs1 | with_reducible apply fracs2 | with_reducible apply fracs3 | with_reducible apply spans1 | with_reducible apply spans2 | (with_reducible apply NewRow.keep; with_reducible assumption) | (with_reducible apply RowAt.keep; with_reducible assumption) | assumption | (focus ((repeat (first | with_reducible assumption | (with_reducible apply RowAt.le; rotate_left; with_reducible assumption) | (with_reducible apply RowB.le; rotate_left; with_reducible assumption))); done)))) | (with_reducible apply ex_side (a := (_, _)); (focus (with_reducible apply And.intro <;> (focus ((repeat (first | with_reducible assumption | (with_reducible apply RowAt.le; rotate_left; with_reducible assumption) | (with_reducible apply RowB.le; rotate_left; with_reducible assumption))); done))))))); (all_goals (conv => whnf)))
    (all_goals (try dsimp only [Q.eta, Sn.eta, SlV.eta] at *)); (all_goals (first | exact Side.mk trivial | with_reducible exact Side.mk rfl | exact Side.mk (fun _ _ h => h) | exact Side.mk (Made.le (by assumption)) | refine Side.mk ?_ | refine Don.mk ?_ | skip))
    refine ⟨_, ?_, k + 1, _, r, E2, nthA [_, _, _, _, _, _, _, _, _, _, _, _, _, _, _, _, _], nthV [], rfl, ?_, by omega, hg2, rfl⟩
    · omega
    · exact (wrap_in (by omega) (by omega)).trans (by omega)
theorem ctxt_yes {u : Q} {l : List Q} (h : okC u l = true) : Lib.join ((u :: l).map ftxt) [32] = ctxt u l := by
  obtain ⟨k1, _, _, _, k5, _⟩ := okC_iff h
  rw [List.map_cons, Lib.join_cons, ctxt, if_pos h, lineL, ftxt_yes k1, List.map_congr_left fun a ha => ftxt_yes (allOk_mem' k5 a ha)]
abbrev ctxtNSp : Sp := .nf C1A (fun x (l : List Q) E => FracsAt x.1.errs l E) (fun x l (_ : Unit) => .string (strB (ctxt x.1.unit l))) (fun _ _ _ E E' => Keeps E E')
set_option maxRecDepth 100000 in
theorem ictxtN_ok : Sp.ok Tryd.prog 17 ctxtNSp := by
  refine Sp.nf_ok (T := ⟨[(36, scaleOkVSp), (37, ftsSp)], []⟩) follows eqok0 ⟨enters Tryd.func36 rfl rfl, scaleV_ok, enters Tryd.func37 rfl rfl, fts_ok, trivial⟩ [] Tryd.func17 rfl (by kernel_rfl) _ _ _ _ fun x l E hp => ?_
  obtain ⟨⟨⟨a, b⟩, ⟨sa, n, c⟩⟩, u⟩ := x
  dsimp only at hp
  by_cases hok : okC ⟨a, b⟩ l = true
  · obtain ⟨k1, k2, k3, k4, k5, _⟩ := okC_iff hok
    have hno : ¬ (!okC ⟨a, b⟩ l) = true := by rw [hok]; decide
    have hn := hp.1
    dsimp only at hn
    (repeat' ((conv => whnf); (first | with_reducible apply And.intro | (with_reducible intro hh; first | (with_reducible have hx := NewRow.self hh; clear hx) | (with_reducible have hrow := Made.row hh; have hle := Made.le hh; have hmade := hh; clear hh) | (with_reducible have hrow := Fresh.rowS hh; have hle := Fresh.leS hh; have hfr := hh; clear hh) | (with_reducible have hx := Ext.self hh; clear hx) | (with_reducible have hx := SlV.self hh; clear hx) | (with_reducible have hx := Value.self hh; clear hx) | with_reducible cases hh | skip) | (with_reducible apply AllEq.mk; intro yy hq) | with_reducible apply trivial | with_reducible apply Exists.intro () | (with_reducible apply ex_side; (first | with_reducible assumption | with_reducible apply fracs1 | with_reducible apply fracs2 | with_reducible apply fracs3 | with_reducible apply spans1 | with_reducible apply spans2 | (with_reducible apply NewRow.keep; with_reducible assumption) | (with_reducible apply RowAt.keep; with_reducible assumption) | assumption | (focus ((repeat (first | with_reducible assumption | (with_reducible apply RowAt.le; rotate_left; with_reducible assumption) | (with_reducible apply RowB.le; rotate_left; with_reducible assumption))); done)))) | (with_reducible apply ex_side (a := (_, _)); (focus (with_reducible apply And.intro <;> (focus ((repeat (first | with_reducible assumption | (with_reducible apply RowAt.le; rotate_left; with_reducible assumption) | (with_reducible apply RowB.le; rotate_left; with_reducible assumption))); done))))))); (all_goals (conv => whnf)))
    (all_goals (try dsimp only [Q.eta, Sn.eta, SlV.eta] at *)); (all_goals (first | exact Side.mk trivial | with_reducible exact Side.mk rfl | exact Side.mk (fun _ _ h => h) | exact Side.mk (Made.le (by assumption)) | refine Side.mk ?_ | refine Don.mk ?_ | skip))
    all_goals try (exfalso; exact hno (by assumption))
    have g1 := Grow.fresh1 (e := 25) ⟨a, b⟩ hh
    have hrow := cells_row (hp.le hh.le)
    refine ⟨([(⟨a, b⟩ : Q)].flatMap Q.cells, l.flatMap Q.cells), Side.mk ⟨g1.own, hrow, cells_ok _, by dsimp only; omega⟩, fun r E2 hpost => ?_⟩
    have g2 := g1.app hpost
    have hr2 := g2.done.row
    obtain ⟨ra, rn, rc⟩ := r
    have hR : FracsAt ⟨ra, rn, rc⟩ ([⟨a, b⟩] ++ l) E2 ∧ 1 ≤ ([(⟨a, b⟩ : Q)] ++ l).length ∧ ([(⟨a, b⟩ : Q)] ++ l).length ≤ 64 := ⟨hr2, by simp, by simp; omega⟩
    conv => whnf
    refine ⟨[⟨a, b⟩] ++ l, Side.mk hR, fun y E3 hk => ?_⟩
    (repeat' ((conv => whnf); (first | with_reducible apply And.intro | (with_reducible intro hh; first | (with_reducible have hx := NewRow.self hh; clear hx) | (with_reducible have hrow := Made.row hh; have hle := Made.le hh; have hmade := hh; clear hh) | (with_reducible have hrow := Fresh.rowS hh; have hle := Fresh.leS hh; have hfr := hh; clear hh) | (with_reducible have hx := Ext.self hh; clear hx) | (with_reducible have hx := SlV.self hh; clear hx) | (with_reducible have hx := Value.self hh; clear hx) | with_reducible cases hh | skip) | (with_reducible apply AllEq.mk; intro yy hq) | with_reducible apply trivial | with_reducible apply Exists.intro () | (with_reducible apply ex_side; (first | with_reducible assumption | with_reducible apply fracs1 | with_reducible apply fracs2 | with_reducible apply fracs3 | with_reducible apply spans1 | with_reducible apply spans2 | (with_reducible apply NewRow.keep; with_reducible assumption) | (with_reducible apply RowAt.keep; with_reducible assumption) | assumption | (focus ((repeat (first | with_reducible assumption | (with_reducible apply RowAt.le; rotate_left; with_reducible assumption) | (with_reducible apply RowB.le; rotate_left; with_reducible assumption))); done)))) | (with_reducible apply ex_side (a := (_, _)); (focus (with_reducible apply And.intro <;> (focus ((repeat (first | with_reducible assumption | (with_reducible apply RowAt.le; rotate_left; with_reducible assumption) | (with_reducible apply RowB.le; rotate_left; with_reducible assumption))); done))))))); (all_goals (conv => whnf)))
    (all_goals (try dsimp only [Q.eta, Sn.eta, SlV.eta] at *)); (all_goals (first | exact Side.mk trivial | with_reducible exact Side.mk rfl | exact Side.mk (fun _ _ h => h) | exact Side.mk (Made.le (by assumption)) | refine Side.mk ?_ | refine Don.mk ?_ | skip))
    exact ⟨(), by rw [← ctxt_yes hok]; rfl, g2.keeps.trans hk⟩
  · have hno : ¬ (!okC ⟨a, b⟩ l) = false := by simpa using hok
    (repeat' ((conv => whnf); (first | with_reducible apply And.intro | (with_reducible intro hh; first | (with_reducible have hx := NewRow.self hh; clear hx) | (with_reducible have hrow := Made.row hh; have hle := Made.le hh; have hmade := hh; clear hh) | (with_reducible have hrow := Fresh.rowS hh; have hle := Fresh.leS hh; have hfr := hh; clear hh) | (with_reducible have hx := Ext.self hh; clear hx) | (with_reducible have hx := SlV.self hh; clear hx) | (with_reducible have hx := Value.self hh; clear hx) | with_reducible cases hh | skip) | (with_reducible apply AllEq.mk; intro yy hq) | with_reducible apply trivial | with_reducible apply Exists.intro () | (with_reducible apply ex_side; (first | with_reducible assumption | with_reducible apply fracs1 | with_reducible apply fracs2 | with_reducible apply fracs3 | with_reducible apply spans1 | with_reducible apply spans2 | (with_reducible apply NewRow.keep; with_reducible assumption) | (with_reducible apply RowAt.keep; with_reducible assumption) | assumption | (focus ((repeat (first | with_reducible assumption | (with_reducible apply RowAt.le; rotate_left; with_reducible assumption) | (with_reducible apply RowB.le; rotate_left; with_reducible assumption))); done)))) | (with_reducible apply ex_side (a := (_, _)); (focus (with_reducible apply And.intro <;> (focus ((repeat (first | with_reducible assumption | (with_reducible apply RowAt.le; rotate_left; with_reducible assumption) | (with_reducible apply RowB.le; rotate_left; with_reducible assumption))); done))))))); (all_goals (conv => whnf)))
    (all_goals (try dsimp only [Q.eta, Sn.eta, SlV.eta] at *)); (all_goals (first | exact Side.mk trivial | with_reducible exact Side.mk rfl | exact Side.mk (fun _ _ h => h) | exact Side.mk (Made.le (by assumption)) | refine Side.mk ?_ | refine Don.mk ?_ | skip))
    all_goals try (exfalso; exact hno (by assumption))
    exact ⟨(), ctxt_no (by simpa using hok), Keeps.refl E⟩
theorem ictxt_ok : Sp.ok Tryd.prog 17 ctxtSp := Sp.rf_of_nf ictxtN_ok

end Go.Proofs.YtadliapkjijahaaDoor
