/- The texts of numbers, in both packages; condition: the bounds that each names. -/
import Derived.Test.YtadliapkjijahaaDoorAb
import Derived.Test.YtadliapkjijahaaDoorC1
import Derived.Test.YtadliapkjijahaaDoorC2
import Derived.Test.YtadliapkjijahaaDoorC3
import Derived.Test.YtadliapkjijahaaDoorC4
import Derived.Test.YtadliapkjijahaaDoorC10
import Derived.Test.YtadliapkjijahaaDoorC12
import Derived.Test.YtadliapkjijahaaDoorC24
import Derived.Test.YtadliapkjijahaaDoorC25
import Derived.Test.YtadliapkjijahaaDoorCK
import Derived.Test.YtadliapkjijahaaDoorCF
import Derived.Test.YtadliapkjijahaaDoorProg
import Derived.Lib.LaidTab
import Derived.Lib.ItoaLen
import Derived.Lib.ItoaMem
set_option linter.unusedVariables false
set_option linter.unusedSimpArgs false
namespace Go.Proofs.YtadliapkjijahaaDoor
open Ab

open Go.Shelf
theorem glob_tab : Tryd.prog.globalNamed "internal/strconv.uint64pow10" = some 1 := by kernel_rfl
theorem tab_is {w : World} {β : List Nat} {E : Ext} (h : Holds w β E) : Lib.TabIs Tryd.prog w "internal/strconv.uint64pow10" .u64 Lib.pow10Tab := by
  obtain ⟨⟨cs, t, fz, h1, h2⟩, _⟩ := h _ (List.mem_cons_self ..)
  unfold Lib.TabIs World.var?
  rw [glob_tab]
  dsimp only [Option.bind_some]
  dsimp only at h1 h2
  rw [h1, h2]
abbrev II : ArgL (Int × Int × Unit) := .cons .int (.cons .int .nil)
abbrev fmtSp : Sp := .pf II (fun x => -9223372036854775808 ≤ x.1 ∧ x.1 ≤ 9223372036854775807 ∧ x.2.1 = 10) (fun x => .string ⟨(Lib.itoa x.1).toArray⟩)
theorem fmt_ok : Sp.ok Tryd.prog 50 fmtSp := by
  intro bs m E K hk w β vs hR hl hv
  simp only [Sp.pf] at hk
  split at hk
  · rename_i us hus
    split at hk
    · rename_i x hx
      obtain ⟨hp, hk⟩ := hk
      obtain ⟨h0, h1, h2⟩ := hp.out
      have he := II.ok hx
      have hb' := plains_eq hus
      subst hb'
      have hvs := vs_of hl hv
      subst hvs
      obtain ⟨n, t, u⟩ := x
      dsimp only at h0 h1 h2
      subst h2
      have hus' : us.toArray = #[.int .i64 n, .int .i64 10] := by rw [he]; rfl
      rw [hus']
      have hcon := Any.strconv_FormatInt_10 fmtF n h0 h1 w (tab_is hR.holds)
      refine Calls.mono (show Calls Tryd.prog 50 _ w _ from hcon) ?_
      rintro e w' ⟨rfl, k, os, rfl⟩
      exact ⟨.v (.string ⟨(Lib.itoa n).toArray⟩), m, E, β, _, rfl, rfl, Rel.grows (hR.drew (w.drawn + k) (Nat.le_add_right _ _)) os, hk⟩
    · cases hk
  · cases hk
def strB (l : List UInt8) : ByteArray := ⟨l.toArray⟩
theorem strB_append (a b : List UInt8) : strB a ++ strB b = strB (a ++ b) := by
  unfold strB
  apply ByteArray.ext
  simp
theorem ofBytes_one (z : Int) : ofBytes [z] = strB [UInt8.ofNat z.toNat] := rfl
theorem bytes_new {E : Ext} {e : TypeId} {d : Int} (r : NewRow E [.int .u8 d] e) : BytesIn r.to ⟨some ⟨r.b, 0, none⟩, 1, 1⟩ [d] := by
  refine ⟨rfl, fun h => (by cases h), fun ad ha j m hj => ?_⟩
  cases ha
  have h := r.at_ (0 + j)
  match j, hj with
  | 0, hj => cases hj; exact h
theorem strB_size (l : List UInt8) : (strB l).size = l.length := by simp [strB, ByteArray.size]
theorem dec_len {u : Nat} (h : u ≤ 4611686018427387904) : (Lib.decDigits u).length ≤ 21 := by
  have := Lib.itoa_length_le (u : Int) (by omega) (by omega)
  rwa [Lib.itoa_nonneg] at this
theorem dec_big {u : Nat} (h : ¬ u < 10) : Lib.decDigits u = Lib.decDigits (u / 10) ++ [UInt8.ofNat (48 + u % 10)] := by rw [Lib.decDigits, dif_neg h]
theorem itoa_len {n : Int} (h1 : -1000000000000 ≤ n) (h2 : n ≤ 1000000000000) : (Lib.itoa n).length ≤ 21 := Lib.itoa_length_le n (by omega) (by omega)
theorem minus_text {n : Int} (h1 : -1000000000000 ≤ n) (h : n < 0) : (⟨#[45]⟩ : ByteArray) ++ strB (Lib.decDigits (IntKind.i64.wrap (0 - n)).toNat) = strB (Lib.itoa n) := by
  rw [wrap_in (by omega) (by omega), Lib.itoa, if_pos h, show (0 - n).toNat = n.natAbs by omega]
  exact strB_append [45] _
theorem minus_size {n : Int} (h1 : -1000000000000 ≤ n) (h : n < 0) : (⟨#[45]⟩ : ByteArray).size + (strB (Lib.decDigits (IntKind.i64.wrap (0 - n)).toNat)).size ≤ 9223372036854775807 := by
  rw [strB_size, wrap_in (by omega) (by omega)]
  have := dec_len (u := (0 - n).toNat) (by omega)
  show 1 + _ ≤ _
  omega
theorem pos_text {n : Int} (h : 0 ≤ n) : strB (Lib.decDigits n.toNat) = strB (Lib.itoa n) := by rw [Lib.itoa, if_neg (by omega)]
/-! the reference's decimals -/
abbrev decKSp (k : Nat) : Sp := .pf I1 (fun x => ∃ u : Nat, x.1 = u ∧ u < k ∧ k ≤ 4611686018427387904) (fun x => .string (strB (Lib.decDigits x.1.toNat)))
set_option maxRecDepth 100000 in
theorem decK_ok : ∀ k : Nat, Sp.ok Tryd.prog 47 (decKSp k)
  | 0 => by
    intro bs m E K hk
    simp only [Sp.pf] at hk
    split at hk
    · split at hk
      · obtain ⟨u, _, hu, _⟩ := hk.1.out
        omega
      · cases hk
    · cases hk
  | k + 1 => Sp.pf_of_nf (δ := Unit) (by
      have dih_ok := decK_ok k
      refine Sp.nf_ok (T := ⟨[(47, decKSp k)], []⟩) follows eqok0 ⟨enters Tryd.func47 rfl rfl, dih_ok, trivial⟩ [(3, .take 0 (.take 1 (.take 3 (.take 4 (.take 5 (.take 6 (.alt 2 (.alt 7 (.take 8 (.take 9 (.take 10 (.done)))) (.last)) (.alt 7 (.take 8 (.alt 2 (.take 9 (.take 10 (.done))) (.last))) (.last)))))))))] Tryd.func47 rfl (by kernel_rfl) _ _ _ _ fun x l E hp => ?_
      obtain ⟨n, u'⟩ := x
      obtain ⟨u, hn, hu, hk⟩ := hp
      dsimp only at hn
      subst hn
      have hr : (u : Int).tmod 10 = ((u % 10 : Nat) : Int) := (Int.ofNat_tmod u 10).symm
      have hq : IntKind.i64.wrap ((u : Int).tdiv 10) = ((u / 10 : Nat) : Int) := by
        rw [show (u : Int).tdiv 10 = ((u / 10 : Nat) : Int) from (Int.ofNat_tdiv u 10).symm, wrap_in (by omega) (by omega)]
      have hd : IntKind.u8.wrap (IntKind.i64.wrap (48 + (u : Int).tmod 10)) = ((48 + u % 10 : Nat) : Int) := by
        rw [hr, wrap_in (a := 48 + ((u % 10 : Nat) : Int)) (by omega) (by omega)]
        simp [IntKind.wrap, IntKind.signed, IntKind.bits]
        omega
      have ht : (10 : Int) ≠ 0 := by decide
      by_cases hlt : u < 10
      · (repeat' ((conv => whnf); (first | with_reducible apply And.intro | (with_reducible intro hh; first | (with_reducible have hx := NewRow.self hh; clear hx) | (with_reducible have hrow := Made.row hh; have hle := Made.le hh; have hmade := hh; clear hh) | (with_reducible have hrow := Fresh.rowS hh; have hle := Fresh.leS hh; have hfr := hh; clear hh) | (with_reducible have hx := Ext.self hh; clear hx) | (with_reducible have hx := SlV.self hh; clear hx) | (with_reducible have hx := Value.self hh; clear hx) | with_reducible cases hh | skip) | (with_reducible apply AllEq.mk; intro yy hq) | with_reducible apply trivial | with_reducible apply Exists.intro () | (with_reducible apply ex_side; (first | with_reducible assumption | with_reducible apply fracs1 | with_reducible apply fracs2 | with_reducible apply fracs3 | with_reducible apply spans1 | with_reducible apply spans2 | (with_reducible apply NewRow.keep; with_reducible assumption) | (with_reducible apply RowAt.keep; with_reducible assumption) | assumption | (focus ((repeat (first | with_reducible assumption | (with_reducible apply RowAt.le; rotate_left; with_reducible assumption) | (with_reducible apply RowB.le; rotate_left; with_reducible assumption))); done)))) | (with_reducible apply ex_side (a := (_, _)); (focus (with_reducible apply And.intro <;> (focus ((repeat (first | with_reducible assumption | (with_reducible apply RowAt.le; rotate_left; with_reducible assumption) | (with_reducible apply RowB.le; rotate_left; with_reducible assumption))); done))))))); (all_goals (conv => whnf)))
        (all_goals (try dsimp only [Q.eta, Sn.eta, SlV.eta] at *)); (all_goals (first | exact Side.mk trivial | with_reducible exact Side.mk rfl | exact Side.mk (fun _ _ h => h) | exact Side.mk (Made.le (by assumption)) | refine Side.mk ?_ | refine Don.mk ?_ | skip))
        all_goals try exact ht
        all_goals try (exfalso; have := of_decide_eq_false (by assumption : decide ((u : Int) < 10) = false); omega)
        all_goals try (refine ⟨[_], Side.mk (bytes_new hh), ?_⟩; (repeat' ((conv => whnf); (first | with_reducible apply And.intro | (with_reducible intro hh; first | (with_reducible have hx := NewRow.self hh; clear hx) | (with_reducible have hrow := Made.row hh; have hle := Made.le hh; have hmade := hh; clear hh) | (with_reducible have hrow := Fresh.rowS hh; have hle := Fresh.leS hh; have hfr := hh; clear hh) | (with_reducible have hx := Ext.self hh; clear hx) | (with_reducible have hx := SlV.self hh; clear hx) | (with_reducible have hx := Value.self hh; clear hx) | with_reducible cases hh | skip) | (with_reducible apply AllEq.mk; intro yy hq) | with_reducible apply trivial | with_reducible apply Exists.intro () | (with_reducible apply ex_side; (first | with_reducible assumption | with_reducible apply fracs1 | with_reducible apply fracs2 | with_reducible apply fracs3 | with_reducible apply spans1 | with_reducible apply spans2 | (with_reducible apply NewRow.keep; with_reducible assumption) | (with_reducible apply RowAt.keep; with_reducible assumption) | assumption | (focus ((repeat (first | with_reducible assumption | (with_reducible apply RowAt.le; rotate_left; with_reducible assumption) | (with_reducible apply RowB.le; rotate_left; with_reducible assumption))); done)))) | (with_reducible apply ex_side (a := (_, _)); (focus (with_reducible apply And.intro <;> (focus ((repeat (first | with_reducible assumption | (with_reducible apply RowAt.le; rotate_left; with_reducible assumption) | (with_reducible apply RowB.le; rotate_left; with_reducible assumption))); done))))))); (all_goals (conv => whnf))); (all_goals (try dsimp only [Q.eta, Sn.eta, SlV.eta] at *)); (all_goals (first | exact Side.mk trivial | with_reducible exact Side.mk rfl | exact Side.mk (fun _ _ h => h) | exact Side.mk (Made.le (by assumption)) | refine Side.mk ?_ | refine Don.mk ?_ | skip)))
        all_goals refine ⟨(), ?_, Keeps.new hh⟩
        all_goals rw [ofBytes_one, hd, Int.toNat_natCast, Int.toNat_natCast, Lib.decDigits, dif_pos hlt, Nat.mod_eq_of_lt hlt]
      · have hih : ∃ v : Nat, IntKind.i64.wrap ((u : Int).tdiv 10) = (v : Int) ∧ v < k ∧ k ≤ 4611686018427387904 := ⟨u / 10, hq, by omega, by omega⟩
        have hl := dec_len (u := u / 10) (by omega)
        (repeat' ((conv => whnf); (first | with_reducible apply And.intro | (with_reducible intro hh; first | (with_reducible have hx := NewRow.self hh; clear hx) | (with_reducible have hrow := Made.row hh; have hle := Made.le hh; have hmade := hh; clear hh) | (with_reducible have hrow := Fresh.rowS hh; have hle := Fresh.leS hh; have hfr := hh; clear hh) | (with_reducible have hx := Ext.self hh; clear hx) | (with_reducible have hx := SlV.self hh; clear hx) | (with_reducible have hx := Value.self hh; clear hx) | with_reducible cases hh | skip) | (with_reducible apply AllEq.mk; intro yy hq) | with_reducible apply trivial | with_reducible apply Exists.intro () | (with_reducible apply ex_side; (first | with_reducible assumption | with_reducible apply fracs1 | with_reducible apply fracs2 | with_reducible apply fracs3 | with_reducible apply spans1 | with_reducible apply spans2 | (with_reducible apply NewRow.keep; with_reducible assumption) | (with_reducible apply RowAt.keep; with_reducible assumption) | assumption | (focus ((repeat (first | with_reducible assumption | (with_reducible apply RowAt.le; rotate_left; with_reducible assumption) | (with_reducible apply RowB.le; rotate_left; with_reducible assumption))); done)))) | (with_reducible apply ex_side (a := (_, _)); (focus (with_reducible apply And.intro <;> (focus ((repeat (first | with_reducible assumption | (with_reducible apply RowAt.le; rotate_left; with_reducible assumption) | (with_reducible apply RowB.le; rotate_left; with_reducible assumption))); done))))))); (all_goals (conv => whnf)))
        (all_goals (try dsimp only [Q.eta, Sn.eta, SlV.eta] at *)); (all_goals (first | exact Side.mk trivial | with_reducible exact Side.mk rfl | exact Side.mk (fun _ _ h => h) | exact Side.mk (Made.le (by assumption)) | refine Side.mk ?_ | refine Don.mk ?_ | skip))
        all_goals try exact ht
        all_goals try exact hih
        all_goals try (exfalso; have := of_decide_eq_true (by assumption : decide ((u : Int) < 10) = true); omega)
        all_goals try (refine ⟨[_], Side.mk (bytes_new hh), ?_⟩; (repeat' ((conv => whnf); (first | with_reducible apply And.intro | (with_reducible intro hh; first | (with_reducible have hx := NewRow.self hh; clear hx) | (with_reducible have hrow := Made.row hh; have hle := Made.le hh; have hmade := hh; clear hh) | (with_reducible have hrow := Fresh.rowS hh; have hle := Fresh.leS hh; have hfr := hh; clear hh) | (with_reducible have hx := Ext.self hh; clear hx) | (with_reducible have hx := SlV.self hh; clear hx) | (with_reducible have hx := Value.self hh; clear hx) | with_reducible cases hh | skip) | (with_reducible apply AllEq.mk; intro yy hq) | with_reducible apply trivial | with_reducible apply Exists.intro () | (with_reducible apply ex_side; (first | with_reducible assumption | with_reducible apply fracs1 | with_reducible apply fracs2 | with_reducible apply fracs3 | with_reducible apply spans1 | with_reducible apply spans2 | (with_reducible apply NewRow.keep; with_reducible assumption) | (with_reducible apply RowAt.keep; with_reducible assumption) | assumption | (focus ((repeat (first | with_reducible assumption | (with_reducible apply RowAt.le; rotate_left; with_reducible assumption) | (with_reducible apply RowB.le; rotate_left; with_reducible assumption))); done)))) | (with_reducible apply ex_side (a := (_, _)); (focus (with_reducible apply And.intro <;> (focus ((repeat (first | with_reducible assumption | (with_reducible apply RowAt.le; rotate_left; with_reducible assumption) | (with_reducible apply RowB.le; rotate_left; with_reducible assumption))); done))))))); (all_goals (conv => whnf))); (all_goals (try dsimp only [Q.eta, Sn.eta, SlV.eta] at *)); (all_goals (first | exact Side.mk trivial | with_reducible exact Side.mk rfl | exact Side.mk (fun _ _ h => h) | exact Side.mk (Made.le (by assumption)) | refine Side.mk ?_ | refine Don.mk ?_ | skip)))
        all_goals try exact ht
        all_goals try exact hih
        all_goals try (rw [hq, ofBytes_one, strB_size, strB_size, Int.toNat_natCast, List.length_singleton]; omega)
        all_goals refine ⟨(), ?_, Keeps.new (by assumption : NewRow E _ _)⟩
        all_goals rw [hq, ofBytes_one, hd, Int.toNat_natCast, Int.toNat_natCast, Int.toNat_natCast, strB_append, dec_big hlt])
/-! with a sign -/
abbrev decSp : Sp := .pf I1 (fun x => 0 ≤ x.1 ∧ x.1 ≤ 1000000000000) (fun x => .string (strB (Lib.decDigits x.1.toNat)))
theorem dec_ok : Sp.ok Tryd.prog 47 decSp := by
  intro bs m E K hk
  refine decK_ok 4611686018427387904 bs m E K ?_
  simp only [Sp.pf] at hk ⊢
  split at hk
  · split at hk
    · rename_i x hx
      obtain ⟨h1, h2⟩ := hk.1.out
      exact ⟨Side.mk ⟨x.1.toNat, by omega, by omega, Nat.le_refl _⟩, hk.2⟩
    · cases hk
  · cases hk
abbrev sgnSp : Sp := .pf I1 (fun x => -1000000000000 ≤ x.1 ∧ x.1 ≤ 1000000000000) (fun x => .string (strB (Lib.itoa x.1)))
set_option maxRecDepth 100000 in
theorem sgn_ok : Sp.ok Tryd.prog 46 sgnSp := by
  refine Sp.pf_ok (T := ⟨[(47, decSp)], []⟩) follows eqok0 ⟨enters Tryd.func47 rfl rfl, dec_ok, trivial⟩ [] Tryd.func46 rfl (by kernel_rfl) _ _ _ fun x E hp => ?_
  obtain ⟨n, u⟩ := x
  obtain ⟨h1, h2⟩ := hp
  dsimp only at h1 h2
  (repeat' ((conv => whnf); (first | with_reducible apply And.intro | (with_reducible intro hh; first | (with_reducible have hx := NewRow.self hh; clear hx) | (with_reducible have hrow := Made.row hh; have hle := Made.le hh; have hmade := hh; clear hh) | (with_reducible have hrow := Fresh.rowS hh; have hle := Fresh.leS hh; have hfr := hh; clear hh) | (with_reducible have hx := Ext.self hh; clear hx) | (with_reducible have hx := SlV.self hh; clear hx) | (with_reducible have hx := Value.self hh; clear hx) | with_reducible cases hh | skip) | (with_reducible apply AllEq.mk; intro yy hq) | with_reducible apply trivial | with_reducible apply Exists.intro () | (with_reducible apply ex_side; (first | with_reducible assumption | with_reducible apply fracs1 | with_reducible apply fracs2 | with_reducible apply fracs3 | with_reducible apply spans1 | with_reducible apply spans2 | (with_reducible apply NewRow.keep; with_reducible assumption) | (with_reducible apply RowAt.keep; with_reducible assumption) | assumption | (focus ((repeat (first | with_reducible assumption | (with_reducible apply RowAt.le; rotate_left; with_reducible assumption) | (with_reducible apply RowB.le; rotate_left; with_reducible assumption))); done)))) | (with_reducible apply ex_side (a := (_, _)); (focus (with_reducible apply And.intro <;> (focus ((repeat (first | with_reducible assumption | (with_reducible apply RowAt.le; rotate_left; with_reducible assumption) | (with_reducible apply RowB.le; rotate_left; with_reducible assumption))); done))))))); (all_goals (conv => whnf)))
  (all_goals (try dsimp only [Q.eta, Sn.eta, SlV.eta] at *)); (all_goals (first | exact Side.mk trivial | with_reducible exact Side.mk rfl | exact Side.mk (fun _ _ h => h) | exact Side.mk (Made.le (by assumption)) | refine Side.mk ?_ | refine Don.mk ?_ | skip))
  all_goals first | (have h := of_decide_eq_true (by assumption : decide (n < 0) = true); first | exact minus_size h1 h | exact congrArg (fun s => AV.v (Value.string s)) (minus_text h1 h) | (rw [wrap_in (by omega) (by omega)]; omega)) | (have h := of_decide_eq_false (by assumption : decide (n < 0) = false); first | exact congrArg (fun s => AV.v (Value.string s)) (pos_text (by omega)) | omega)
abbrev idecSp : Sp := .pf I1 (fun x => -1000000000000 ≤ x.1 ∧ x.1 ≤ 1000000000000) (fun x => .string (strB (Lib.itoa x.1)))
set_option maxRecDepth 100000 in
theorem idec_ok : Sp.ok Tryd.prog 28 idecSp := by
  refine Sp.pf_ok (T := ⟨[(50, fmtSp)], []⟩) follows eqok0 ⟨enters Tryd.func50 rfl rfl, fmt_ok, trivial⟩ [] Tryd.func28 rfl (by kernel_rfl) _ _ _ fun x E hp => ?_
  obtain ⟨n, u⟩ := x
  obtain ⟨h1, h2⟩ := hp
  dsimp only at h1 h2
  (repeat' ((conv => whnf); (first | with_reducible apply And.intro | (with_reducible intro hh; first | (with_reducible have hx := NewRow.self hh; clear hx) | (with_reducible have hrow := Made.row hh; have hle := Made.le hh; have hmade := hh; clear hh) | (with_reducible have hrow := Fresh.rowS hh; have hle := Fresh.leS hh; have hfr := hh; clear hh) | (with_reducible have hx := Ext.self hh; clear hx) | (with_reducible have hx := SlV.self hh; clear hx) | (with_reducible have hx := Value.self hh; clear hx) | with_reducible cases hh | skip) | (with_reducible apply AllEq.mk; intro yy hq) | with_reducible apply trivial | with_reducible apply Exists.intro () | (with_reducible apply ex_side; (first | with_reducible assumption | with_reducible apply fracs1 | with_reducible apply fracs2 | with_reducible apply fracs3 | with_reducible apply spans1 | with_reducible apply spans2 | (with_reducible apply NewRow.keep; with_reducible assumption) | (with_reducible apply RowAt.keep; with_reducible assumption) | assumption | (focus ((repeat (first | with_reducible assumption | (with_reducible apply RowAt.le; rotate_left; with_reducible assumption) | (with_reducible apply RowB.le; rotate_left; with_reducible assumption))); done)))) | (with_reducible apply ex_side (a := (_, _)); (focus (with_reducible apply And.intro <;> (focus ((repeat (first | with_reducible assumption | (with_reducible apply RowAt.le; rotate_left; with_reducible assumption) | (with_reducible apply RowB.le; rotate_left; with_reducible assumption))); done))))))); (all_goals (conv => whnf)))
  (all_goals (try dsimp only [Q.eta, Sn.eta, SlV.eta] at *)); (all_goals (first | exact Side.mk trivial | with_reducible exact Side.mk rfl | exact Side.mk (fun _ _ h => h) | exact Side.mk (Made.le (by assumption)) | refine Side.mk ?_ | refine Don.mk ?_ | skip))
  all_goals first | rfl | exact ⟨by omega, by omega, rfl⟩
/-! fractions -/
def txtQ (a : Q) : List UInt8 := if a.q = 1 then Lib.itoa a.p else Lib.itoa a.p ++ (47 :: Lib.itoa a.q)
def ftxt (a : Q) : List UInt8 := if okQ a then txtQ a else []
theorem txtQ_len {a : Q} (h : okQ a = true) : (txtQ a).length ≤ 43 := by
  obtain ⟨h1, h2, h3, h4, _⟩ := okQ_iff.1 h
  have k1 := itoa_len (n := a.p) (by omega) (by omega)
  have k2 := itoa_len (n := a.q) (by omega) (by omega)
  unfold txtQ
  split
  · omega
  · rw [List.length_append, List.length_cons]; omega
theorem slash_text (l r : List UInt8) : strB l ++ (⟨#[47]⟩ : ByteArray) ++ strB r = strB (l ++ (47 :: r)) := by
  rw [show (⟨#[47]⟩ : ByteArray) = strB [47] from rfl, strB_append, strB_append, List.append_assoc]
  rfl
theorem size47 : (⟨#[47]⟩ : ByteArray).size = 1 := rfl
theorem txt_one {a c : Int} (h : (c == 1) = true) : txtQ ⟨a, c⟩ = Lib.itoa a := if_pos (by simpa using h)
theorem txt_two {a c : Int} (h : (c == 1) = false) : strB (Lib.itoa a) ++ (⟨#[47]⟩ : ByteArray) ++ strB (Lib.itoa c) = strB (txtQ ⟨a, c⟩) := by
  rw [slash_text, txtQ, if_neg (by simpa using h)]
theorem ftxt_yes {a : Q} (h : okQ a = true) : ftxt a = txtQ a := if_pos h
theorem ftxt_no {a : Q} (h : (!okQ a) = true) : ftxt a = [] := if_neg (by simpa using h)
theorem ftxt_no' {a : Q} (h : (!okQ a) = true) : AV.v (Value.string ⟨#[]⟩) = AV.v (Value.string (strB (ftxt a))) := by rw [ftxt_no h]; rfl
theorem ba_app (a b : ByteArray) : (a ++ b).size = a.size + b.size := ByteArray.size_append
abbrev ltxtSp : Sp := .pf F1 (fun x => okQ x.1 = true) (fun x => .string (strB (txtQ x.1)))
set_option maxRecDepth 100000 in
theorem ltxt_ok : Sp.ok Tryd.prog 26 ltxtSp := by
  refine Sp.pf_ok (T := ⟨[(46, sgnSp), (47, decSp)], []⟩) follows eqok0 ⟨enters Tryd.func46 rfl rfl, sgn_ok, enters Tryd.func47 rfl rfl, dec_ok, trivial⟩ [(3, .take 0 (.take 1 (.take 4 (.take 5 (.alt 2 (.take 3 (.alt 6 (.take 7 (.take 8 (.done))) (.last))) (.last))))))] Tryd.func26 rfl (by kernel_rfl) _ _ _ fun x E hp => ?_
  obtain ⟨⟨a, c⟩, u⟩ := x
  obtain ⟨h1, h2, h3, h4, _⟩ := okQ_iff.1 hp
  dsimp only at h1 h2 h3 h4
  have k1 := itoa_len (n := a) (by omega) (by omega)
  have k2 := itoa_len (n := c) (by omega) (by omega)
  have k3 := dec_len (u := c.toNat) (by omega)
  (repeat' ((conv => whnf); (first | with_reducible apply And.intro | (with_reducible intro hh; first | (with_reducible have hx := NewRow.self hh; clear hx) | (with_reducible have hrow := Made.row hh; have hle := Made.le hh; have hmade := hh; clear hh) | (with_reducible have hrow := Fresh.rowS hh; have hle := Fresh.leS hh; have hfr := hh; clear hh) | (with_reducible have hx := Ext.self hh; clear hx) | (with_reducible have hx := SlV.self hh; clear hx) | (with_reducible have hx := Value.self hh; clear hx) | with_reducible cases hh | skip) | (with_reducible apply AllEq.mk; intro yy hq) | with_reducible apply trivial | with_reducible apply Exists.intro () | (with_reducible apply ex_side; (first | with_reducible assumption | with_reducible apply fracs1 | with_reducible apply fracs2 | with_reducible apply fracs3 | with_reducible apply spans1 | with_reducible apply spans2 | (with_reducible apply NewRow.keep; with_reducible assumption) | (with_reducible apply RowAt.keep; with_reducible assumption) | assumption | (focus ((repeat (first | with_reducible assumption | (with_reducible apply RowAt.le; rotate_left; with_reducible assumption) | (with_reducible apply RowB.le; rotate_left; with_reducible assumption))); done)))) | (with_reducible apply ex_side (a := (_, _)); (focus (with_reducible apply And.intro <;> (focus ((repeat (first | with_reducible assumption | (with_reducible apply RowAt.le; rotate_left; with_reducible assumption) | (with_reducible apply RowB.le; rotate_left; with_reducible assumption))); done))))))); (all_goals (conv => whnf)))
  (all_goals (try dsimp only [Q.eta, Sn.eta, SlV.eta] at *)); (all_goals (first | exact Side.mk trivial | with_reducible exact Side.mk rfl | exact Side.mk (fun _ _ h => h) | exact Side.mk (Made.le (by assumption)) | refine Side.mk ?_ | refine Don.mk ?_ | skip))
  all_goals first | exact ⟨by omega, by omega⟩ | (simp only [ba_app, strB_size, size47]; omega) | skip
  · rw [txt_one (by assumption)]
  · rw [pos_text (by omega), txt_two (by assumption)]
abbrev ftxtSp : Sp := .pf F1 (fun _ => True) (fun x => .string (strB (ftxt x.1)))
set_option maxRecDepth 100000 in
theorem sftxt_ok : Sp.ok Tryd.prog 8 ftxtSp := by
  refine Sp.pf_ok (T := ⟨[(25, validSp), (26, ltxtSp)], []⟩) follows eqok0 ⟨enters Tryd.func25 rfl rfl, spok_ok, enters Tryd.func26 rfl rfl, ltxt_ok, trivial⟩ [] Tryd.func8 rfl (by kernel_rfl) _ _ _ fun x E hp => ?_
  obtain ⟨⟨a, c⟩, u⟩ := x
  (repeat' ((conv => whnf); (first | with_reducible apply And.intro | (with_reducible intro hh; first | (with_reducible have hx := NewRow.self hh; clear hx) | (with_reducible have hrow := Made.row hh; have hle := Made.le hh; have hmade := hh; clear hh) | (with_reducible have hrow := Fresh.rowS hh; have hle := Fresh.leS hh; have hfr := hh; clear hh) | (with_reducible have hx := Ext.self hh; clear hx) | (with_reducible have hx := SlV.self hh; clear hx) | (with_reducible have hx := Value.self hh; clear hx) | with_reducible cases hh | skip) | (with_reducible apply AllEq.mk; intro yy hq) | with_reducible apply trivial | with_reducible apply Exists.intro () | (with_reducible apply ex_side; (first | with_reducible assumption | with_reducible apply fracs1 | with_reducible apply fracs2 | with_reducible apply fracs3 | with_reducible apply spans1 | with_reducible apply spans2 | (with_reducible apply NewRow.keep; with_reducible assumption) | (with_reducible apply RowAt.keep; with_reducible assumption) | assumption | (focus ((repeat (first | with_reducible assumption | (with_reducible apply RowAt.le; rotate_left; with_reducible assumption) | (with_reducible apply RowB.le; rotate_left; with_reducible assumption))); done)))) | (with_reducible apply ex_side (a := (_, _)); (focus (with_reducible apply And.intro <;> (focus ((repeat (first | with_reducible assumption | (with_reducible apply RowAt.le; rotate_left; with_reducible assumption) | (with_reducible apply RowB.le; rotate_left; with_reducible assumption))); done))))))); (all_goals (conv => whnf)))
  (all_goals (try dsimp only [Q.eta, Sn.eta, SlV.eta] at *)); (all_goals (first | exact Side.mk trivial | with_reducible exact Side.mk rfl | exact Side.mk (fun _ _ h => h) | exact Side.mk (Made.le (by assumption)) | refine Side.mk ?_ | refine Don.mk ?_ | skip))
  · exact ftxt_no' (by assumption)
  · simpa using hh
  · rw [ftxt_yes (by simpa using hh)]
set_option maxRecDepth 100000 in
theorem iftxt_ok : Sp.ok Tryd.prog 10 ftxtSp := by
  refine Sp.pf_ok (T := ⟨[(27, validSp), (28, idecSp)], []⟩) follows eqok0 ⟨enters Tryd.func27 rfl rfl, valid_ok, enters Tryd.func28 rfl rfl, idec_ok, trivial⟩ [(5, .take 0 (.take 1 (.take 4 (.take 5 (.alt 2 (.take 3 (.alt 6 (.take 7 (.take 8 (.done))) (.last))) (.last))))))] Tryd.func10 rfl (by kernel_rfl) _ _ _ fun x E hp => ?_
  obtain ⟨⟨a, c⟩, u⟩ := x
  by_cases hok : okQ ⟨a, c⟩ = true
  · obtain ⟨h1, h2, h3, h4, _⟩ := okQ_iff.1 hok
    dsimp only at h1 h2 h3 h4
    have k1 := itoa_len (n := a) (by omega) (by omega)
    have k2 := itoa_len (n := c) (by omega) (by omega)
    have hno : ¬ (!okQ ⟨a, c⟩) = true := by rw [hok]; decide
    rw [ftxt_yes hok]
    (repeat' ((conv => whnf); (first | with_reducible apply And.intro | (with_reducible intro hh; first | (with_reducible have hx := NewRow.self hh; clear hx) | (with_reducible have hrow := Made.row hh; have hle := Made.le hh; have hmade := hh; clear hh) | (with_reducible have hrow := Fresh.rowS hh; have hle := Fresh.leS hh; have hfr := hh; clear hh) | (with_reducible have hx := Ext.self hh; clear hx) | (with_reducible have hx := SlV.self hh; clear hx) | (with_reducible have hx := Value.self hh; clear hx) | with_reducible cases hh | skip) | (with_reducible apply AllEq.mk; intro yy hq) | with_reducible apply trivial | with_reducible apply Exists.intro () | (with_reducible apply ex_side; (first | with_reducible assumption | with_reducible apply fracs1 | with_reducible apply fracs2 | with_reducible apply fracs3 | with_reducible apply spans1 | with_reducible apply spans2 | (with_reducible apply NewRow.keep; with_reducible assumption) | (with_reducible apply RowAt.keep; with_reducible assumption) | assumption | (focus ((repeat (first | with_reducible assumption | (with_reducible apply RowAt.le; rotate_left; with_reducible assumption) | (with_reducible apply RowB.le; rotate_left; with_reducible assumption))); done)))) | (with_reducible apply ex_side (a := (_, _)); (focus (with_reducible apply And.intro <;> (focus ((repeat (first | with_reducible assumption | (with_reducible apply RowAt.le; rotate_left; with_reducible assumption) | (with_reducible apply RowB.le; rotate_left; with_reducible assumption))); done))))))); (all_goals (conv => whnf)))
    (all_goals (try dsimp only [Q.eta, Sn.eta, SlV.eta] at *)); (all_goals (first | exact Side.mk trivial | with_reducible exact Side.mk rfl | exact Side.mk (fun _ _ h => h) | exact Side.mk (Made.le (by assumption)) | refine Side.mk ?_ | refine Don.mk ?_ | skip))
    all_goals first | (exfalso; exact hno (by assumption)) | exact ⟨by omega, by omega⟩ | (simp only [ba_app, strB_size, size47]; omega) | skip
    · rw [txt_one (by assumption)]
    · rw [txt_two (by assumption)]
  · have hno : ¬ (!okQ ⟨a, c⟩) = false := by simpa using hok
    (repeat' ((conv => whnf); (first | with_reducible apply And.intro | (with_reducible intro hh; first | (with_reducible have hx := NewRow.self hh; clear hx) | (with_reducible have hrow := Made.row hh; have hle := Made.le hh; have hmade := hh; clear hh) | (with_reducible have hrow := Fresh.rowS hh; have hle := Fresh.leS hh; have hfr := hh; clear hh) | (with_reducible have hx := Ext.self hh; clear hx) | (with_reducible have hx := SlV.self hh; clear hx) | (with_reducible have hx := Value.self hh; clear hx) | with_reducible cases hh | skip) | (with_reducible apply AllEq.mk; intro yy hq) | with_reducible apply trivial | with_reducible apply Exists.intro () | (with_reducible apply ex_side; (first | with_reducible assumption | with_reducible apply fracs1 | with_reducible apply fracs2 | with_reducible apply fracs3 | with_reducible apply spans1 | with_reducible apply spans2 | (with_reducible apply NewRow.keep; with_reducible assumption) | (with_reducible apply RowAt.keep; with_reducible assumption) | assumption | (focus ((repeat (first | with_reducible assumption | (with_reducible apply RowAt.le; rotate_left; with_reducible assumption) | (with_reducible apply RowB.le; rotate_left; with_reducible assumption))); done)))) | (with_reducible apply ex_side (a := (_, _)); (focus (with_reducible apply And.intro <;> (focus ((repeat (first | with_reducible assumption | (with_reducible apply RowAt.le; rotate_left; with_reducible assumption) | (with_reducible apply RowB.le; rotate_left; with_reducible assumption))); done))))))); (all_goals (conv => whnf)))
    (all_goals (try dsimp only [Q.eta, Sn.eta, SlV.eta] at *)); (all_goals (first | exact Side.mk trivial | with_reducible exact Side.mk rfl | exact Side.mk (fun _ _ h => h) | exact Side.mk (Made.le (by assumption)) | refine Side.mk ?_ | refine Don.mk ?_ | skip))
    all_goals first | (exfalso; exact hno (by assumption)) | exact ftxt_no' (by assumption)

end Go.Proofs.YtadliapkjijahaaDoor
