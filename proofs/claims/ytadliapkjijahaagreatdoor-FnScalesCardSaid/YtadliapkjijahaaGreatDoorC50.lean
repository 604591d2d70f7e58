/- The texts of numbers, in both packages; condition: the bounds that each names. -/
import Derived.Test.YtadliapkjijahaaGreatDoorAb
import Derived.Test.YtadliapkjijahaaGreatDoorC1
import Derived.Test.YtadliapkjijahaaGreatDoorC2
import Derived.Test.YtadliapkjijahaaGreatDoorC3
import Derived.Test.YtadliapkjijahaaGreatDoorC4
import Derived.Test.YtadliapkjijahaaGreatDoorC10
import Derived.Test.YtadliapkjijahaaGreatDoorC12
import Derived.Test.YtadliapkjijahaaGreatDoorC24
import Derived.Test.YtadliapkjijahaaGreatDoorC25
import Derived.Test.YtadliapkjijahaaGreatDoorCK
import Derived.Test.YtadliapkjijahaaGreatDoorCF
import Derived.Test.YtadliapkjijahaaGreatDoorProg
import Derived.Lib.LaidTab
import Derived.Lib.ItoaLen
import Derived.Lib.ItoaMem
set_option linter.unusedVariables false
set_option linter.unusedSimpArgs false
namespace Go.Proofs.YtadliapkjijahaaGreatDoor
open Ab

open Go.Shelf
theorem glob_tab : Tryz.prog.globalNamed "internal/strconv.uint64pow10" = some 3 := by kernel_rfl
theorem tab_is {w : World} {β : List Nat} {E : Ext} (h : Holds w β E) : Lib.TabIs Tryz.prog w "internal/strconv.uint64pow10" .u64 Lib.pow10Tab := by
  obtain ⟨⟨cs, t, fz, h1, h2⟩, _⟩ := h _ (List.mem_cons_self ..)
  unfold Lib.TabIs World.var?
  rw [glob_tab]
  dsimp only [Option.bind_some]
  dsimp only at h1 h2
  rw [h1, h2]
theorem Rel.below {w0 w w' : World} {β0 β : List Nat} {m : Mem} {F0 E : Ext} (h : Rel w0 β0 F0 β m E w) (b : Go.RowKit.Below w.heap.size w w') : Rel w0 β0 F0 β m E w' := by
  refine ⟨h.ge, b.os.trans h.os, b.tape.trans h.tape, ⟨b.output.trans h.output.1, trivial⟩, Nat.le_trans h.size b.size, fun k hk hn ho => ?_, h.pre, h.nodup, h.len, fun i b' c hi hc => ?_, fun a v ha => ?_, h.dom, h.le0, fun b' p hb => ?_, h.glob⟩
  · rw [b.block k (Nat.lt_of_lt_of_le hk h.size)]
    exact h.old k hk hn ho
  · rw [b.block b' (h.lt (List.mem_of_getElem? hi))]
    exact h.blk i b' c hi hc
  · obtain ⟨h1, h2⟩ := h.ext a v ha
    exact ⟨(cell_of_block (b.block _ (cell_lt h1))).trans h1, h2⟩
  · obtain ⟨g1, g2, cur, g3, g4⟩ := h.own b' p hb
    exact ⟨g1, g2, cur, (b.block b' (h.own_lt hb)).trans g3, g4⟩
abbrev II : ArgL (Int × Int × Unit) := .cons .int (.cons .int .nil)
abbrev fmtSp : Sp := .pf II (fun x => -9223372036854775808 ≤ x.1 ∧ x.1 ≤ 9223372036854775807 ∧ x.2.1 = 10) (fun x => .string ⟨(Lib.itoa x.1).toArray⟩)
theorem fmt_ok : Sp.ok Tryz.prog 118 fmtSp := by
  intro bs m E K hk w β vs hR hl hv
  simp only [Sp.pf] at hk
  split at hk
  · rename_i us hus
    split at hk
    · rename_i x hx
      obtain ⟨hp, hk⟩ := hk
      obtain ⟨h0, h1, h2⟩ := hp.out
      have he := II.ok hx
      have hb' := plains_eq hus
      subst hb'
      have hvs := vs_of hl hv
      subst hvs
      obtain ⟨n, t, u⟩ := x
      dsimp only at h0 h1 h2
      subst h2
      have hus' : us.toArray = #[.int .i64 n, .int .i64 10] := by rw [he]; rfl
      rw [hus']
      have hcon := Any.strconv_FormatInt_10 fmtF n h0 h1 w (tab_is hR.holds)
      refine Calls.mono (show Calls Tryz.prog 118 _ w _ from hcon) ?_
      rintro e w' ⟨rfl, k, os, rfl⟩
      exact ⟨.v (.string ⟨(Lib.itoa n).toArray⟩), m, E, β, _, rfl, rfl, Rel.grows (hR.drew (w.drawn + k) (Nat.le_add_right _ _)) os, hk⟩
    · cases hk
  · cases hk
def strB (l : List UInt8) : ByteArray := ⟨l.toArray⟩
theorem strB_append (a b : List UInt8) : strB a ++ strB b = strB (a ++ b) := by
  unfold strB
  apply ByteArray.ext
  simp
theorem ofBytes_one (z : Int) : ofBytes [z] = strB [UInt8.ofNat z.toNat] := rfl
theorem bytes_new {E : Ext} {e : TypeId} {d : Int} (r : NewRow E [.int .u8 d] e) : BytesIn r.to ⟨some ⟨r.b, 0, none⟩, 1, 1⟩ [d] := by
  refine ⟨rfl, fun h => (by cases h), fun ad ha j m hj => ?_⟩
  cases ha
  have h := r.at_ (0 + j)
  match j, hj with
  | 0, hj => cases hj; exact h
theorem strB_size (l : List UInt8) : (strB l).size = l.length := by simp [strB, ByteArray.size]
theorem dec_len {u : Nat} (h : u ≤ 4611686018427387904) : (Lib.decDigits u).length ≤ 21 := by
  have := Lib.itoa_length_le (u : Int) (by omega) (by omega)
  rwa [Lib.itoa_nonneg] at this
theorem dec_big {u : Nat} (h : ¬ u < 10) : Lib.decDigits u = Lib.decDigits (u / 10) ++ [UInt8.ofNat (48 + u % 10)] := by rw [Lib.decDigits, dif_neg h]
theorem itoa_len {n : Int} (h1 : -1000000000000 ≤ n) (h2 : n ≤ 1000000000000) : (Lib.itoa n).length ≤ 21 := Lib.itoa_length_le n (by omega) (by omega)
theorem minus_text {n : Int} (h1 : -1000000000000 ≤ n) (h : n < 0) : (⟨#[45]⟩ : ByteArray) ++ strB (Lib.decDigits (IntKind.i64.wrap (0 - n)).toNat) = strB (Lib.itoa n) := by
  rw [wrap_in (by omega) (by omega), Lib.itoa, if_pos h, show (0 - n).toNat = n.natAbs by omega]
  exact strB_append [45] _
theorem minus_size {n : Int} (h1 : -1000000000000 ≤ n) (h : n < 0) : (⟨#[45]⟩ : ByteArray).size + (strB (Lib.decDigits (IntKind.i64.wrap (0 - n)).toNat)).size ≤ 9223372036854775807 := by
  rw [strB_size, wrap_in (by omega) (by omega)]
  have := dec_len (u := (0 - n).toNat) (by omega)
  show 1 + _ ≤ _
  omega
theorem pos_text {n : Int} (h : 0 ≤ n) : strB (Lib.decDigits n.toNat) = strB (Lib.itoa n) := by rw [Lib.itoa, if_neg (by omega)]
/-! the reference's decimals -/
abbrev decKSp (k : Nat) : Sp := .pf I1 (fun x => ∃ u : Nat, x.1 = u ∧ u < k ∧ k ≤ 4611686018427387904) (fun x => .string (strB (Lib.decDigits x.1.toNat)))
/-! with a sign -/
abbrev decSp : Sp := .pf I1 (fun x => 0 ≤ x.1 ∧ x.1 ≤ 1000000000000) (fun x => .string (strB (Lib.decDigits x.1.toNat)))
abbrev sgnSp : Sp := .pf I1 (fun x => -1000000000000 ≤ x.1 ∧ x.1 ≤ 1000000000000) (fun x => .string (strB (Lib.itoa x.1)))
abbrev idecSp : Sp := .pf I1 (fun x => -1000000000000 ≤ x.1 ∧ x.1 ≤ 1000000000000) (fun x => .string (strB (Lib.itoa x.1)))
set_option maxRecDepth 100000 in
theorem idec_ok : Sp.ok Tryz.prog 95 idecSp := by
  refine Sp.pf_ok (T := ⟨[(118, fmtSp)], []⟩) follows eqok0 ⟨enters Tryz.func118 rfl rfl, fmt_ok, trivial⟩ [] Tryz.func95 rfl (by kernel_rfl) _ _ _ fun x E hp => ?_
  obtain ⟨n, u⟩ := x
  obtain ⟨h1, h2⟩ := hp
  dsimp only at h1 h2
  (repeat' ((conv => whnf); (first | with_reducible apply And.intro | (with_reducible intro hh; first | (with_reducible have hx := NewRow.self hh; clear hx) | (with_reducible have hrow := Made.row hh; have hle := Made.le hh; have hmade := hh; clear hh) | (with_reducible have hrow := Fresh.rowS hh; have hle := Fresh.leS hh; have hfr := hh; clear hh) | (with_reducible have hx := Ext.self hh; clear hx) | (with_reducible have hx := SlV.self hh; clear hx) | (with_reducible have hx := Value.self hh; clear hx) | with_reducible cases hh | skip) | (with_reducible apply AllEq.mk; intro yy hq) | with_reducible apply trivial | with_reducible apply Exists.intro () | (with_reducible apply ex_side; (first | with_reducible assumption | with_reducible apply fracs1 | with_reducible apply fracs2 | with_reducible apply fracs3 | with_reducible apply spans1 | with_reducible apply spans2 | (with_reducible apply NewRow.keep; with_reducible assumption) | (with_reducible apply RowAt.keep; with_reducible assumption) | assumption | (focus ((repeat (first | with_reducible assumption | (with_reducible apply RowAt.le; rotate_left; with_reducible assumption) | (with_reducible apply RowB.le; rotate_left; with_reducible assumption))); done)))) | (with_reducible apply ex_side (a := (_, _)); (focus (with_reducible apply And.intro <;> (focus ((repeat (first | with_reducible assumption | (with_reducible apply RowAt.le; rotate_left; with_reducible assumption) | (with_reducible apply RowB.le; rotate_left; with_reducible assumption))); done))))))); (all_goals (conv => whnf)))
  (all_goals (try dsimp only [Q.eta, Sn.eta, SlV.eta] at *)); (all_goals (first | exact Side.mk trivial | with_reducible exact Side.mk rfl | exact Side.mk (fun _ _ h => h) | exact Side.mk (Made.le (by assumption)) | refine Side.mk ?_ | refine Don.mk ?_ | skip))
  all_goals first | rfl | exact ⟨by omega, by omega, rfl⟩
/-! fractions -/
def txtQ (a : Q) : List UInt8 := if a.q = 1 then Lib.itoa a.p else Lib.itoa a.p ++ (47 :: Lib.itoa a.q)
def ftxt (a : Q) : List UInt8 := if okQ a then txtQ a else []
theorem txtQ_len {a : Q} (h : okQ a = true) : (txtQ a).length ≤ 43 := by
  obtain ⟨h1, h2, h3, h4, _⟩ := okQ_iff.1 h
  have k1 := itoa_len (n := a.p) (by omega) (by omega)
  have k2 := itoa_len (n := a.q) (by omega) (by omega)
  unfold txtQ
  split
  · omega
  · rw [List.length_append, List.length_cons]; omega
theorem slash_text (l r : List UInt8) : strB l ++ (⟨#[47]⟩ : ByteArray) ++ strB r = strB (l ++ (47 :: r)) := by
  rw [show (⟨#[47]⟩ : ByteArray) = strB [47] from rfl, strB_append, strB_append, List.append_assoc]
  rfl
theorem size47 : (⟨#[47]⟩ : ByteArray).size = 1 := rfl
theorem txt_one {a c : Int} (h : (c == 1) = true) : txtQ ⟨a, c⟩ = Lib.itoa a := if_pos (by simpa using h)
theorem txt_two {a c : Int} (h : (c == 1) = false) : strB (Lib.itoa a) ++ (⟨#[47]⟩ : ByteArray) ++ strB (Lib.itoa c) = strB (txtQ ⟨a, c⟩) := by
  rw [slash_text, txtQ, if_neg (by simpa using h)]
theorem ftxt_yes {a : Q} (h : okQ a = true) : ftxt a = txtQ a := if_pos h
theorem ftxt_no {a : Q} (h : (!okQ a) = true) : ftxt a = [] := if_neg (by simpa using h)
theorem ftxt_no' {a : Q} (h : (!okQ a) = true) : AV.v (Value.string ⟨#[]⟩) = AV.v (Value.string (strB (ftxt a))) := by rw [ftxt_no h]; rfl
theorem ba_app (a b : ByteArray) : (a ++ b).size = a.size + b.size := ByteArray.size_append
abbrev ltxtSp : Sp := .pf F1 (fun x => okQ x.1 = true) (fun x => .string (strB (txtQ x.1)))
abbrev ftxtSp : Sp := .pf F1 (fun _ => True) (fun x => .string (strB (ftxt x.1)))
set_option maxRecDepth 100000 in
theorem iftxt_ok : Sp.ok Tryz.prog 47 ftxtSp := by
  refine Sp.pf_ok (T := ⟨[(63, validSp), (95, idecSp)], []⟩) follows eqok0 ⟨enters Tryz.func63 rfl rfl, valid_ok, enters Tryz.func95 rfl rfl, idec_ok, trivial⟩ [(5, .take 0 (.take 1 (.take 4 (.take 5 (.alt 2 (.take 3 (.alt 6 (.take 7 (.take 8 (.done))) (.last))) (.last))))))] Tryz.func47 rfl (by kernel_rfl) _ _ _ fun x E hp => ?_
  obtain ⟨⟨a, c⟩, u⟩ := x
  by_cases hok : okQ ⟨a, c⟩ = true
  · obtain ⟨h1, h2, h3, h4, _⟩ := okQ_iff.1 hok
    dsimp only at h1 h2 h3 h4
    have k1 := itoa_len (n := a) (by omega) (by omega)
    have k2 := itoa_len (n := c) (by omega) (by omega)
    have hno : ¬ (!okQ ⟨a, c⟩) = true := by rw [hok]; decide
    rw [ftxt_yes hok]
    (repeat' ((conv => whnf); (first | with_reducible apply And.intro | (with_reducible intro hh; first | (with_reducible have hx := NewRow.self hh; clear hx) | (with_reducible have hrow := Made.row hh; have hle := Made.le hh; have hmade := hh; clear hh) | (with_reducible have hrow := Fresh.rowS hh; have hle := Fresh.leS hh; have hfr := hh; clear hh) | (with_reducible have hx := Ext.self hh; clear hx) | (with_reducible have hx := SlV.self hh; clear hx) | (with_reducible have hx := Value.self hh; clear hx) | with_reducible cases hh | skip) | (with_reducible apply AllEq.mk; intro yy hq) | with_reducible apply trivial | with_reducible apply Exists.intro () | (with_reducible apply ex_side; (first | with_reducible assumption | with_reducible apply fracs1 | with_reducible apply fracs2 | with_reducible apply fracs3 | with_reducible apply spans1 | with_reducible apply spans2 | (with_reducible apply NewRow.keep; with_reducible assumption) | (with_reducible apply RowAt.keep; with_reducible assumption) | assumption | (focus ((repeat (first | with_reducible assumption | (with_reducible apply RowAt.le; rotate_left; with_reducible assumption) | (with_reducible apply RowB.le; rotate_left; with_reducible assumption))); done)))) | (with_reducible apply ex_side (a := (_, _)); (focus (with_reducible apply And.intro <;> (focus ((repeat (first | with_reducible assumption | (with_reducible apply RowAt.le; rotate_left; with_reducible assumption) | (with_reducible apply RowB.le; rotate_left; with_reducible assumption))); done))))))); (all_goals (conv => whnf)))
    (all_goals (try dsimp only [Q.eta, Sn.eta, SlV.eta] at *)); (all_goals (first | exact Side.mk trivial | with_reducible exact Side.mk rfl | exact Side.mk (fun _ _ h => h) | exact Side.mk (Made.le (by assumption)) | refine Side.mk ?_ | refine Don.mk ?_ | skip))
    all_goals first | (exfalso; exact hno (by assumption)) | exact ⟨by omega, by omega⟩ | (simp only [ba_app, strB_size, size47]; omega) | skip
    · rw [txt_one (by assumption)]
    · rw [txt_two (by assumption)]
  · have hno : ¬ (!okQ ⟨a, c⟩) = false := by simpa using hok
    (repeat' ((conv => whnf); (first | with_reducible apply And.intro | (with_reducible intro hh; first | (with_reducible have hx := NewRow.self hh; clear hx) | (with_reducible have hrow := Made.row hh; have hle := Made.le hh; have hmade := hh; clear hh) | (with_reducible have hrow := Fresh.rowS hh; have hle := Fresh.leS hh; have hfr := hh; clear hh) | (with_reducible have hx := Ext.self hh; clear hx) | (with_reducible have hx := SlV.self hh; clear hx) | (with_reducible have hx := Value.self hh; clear hx) | with_reducible cases hh | skip) | (with_reducible apply AllEq.mk; intro yy hq) | with_reducible apply trivial | with_reducible apply Exists.intro () | (with_reducible apply ex_side; (first | with_reducible assumption | with_reducible apply fracs1 | with_reducible apply fracs2 | with_reducible apply fracs3 | with_reducible apply spans1 | with_reducible apply spans2 | (with_reducible apply NewRow.keep; with_reducible assumption) | (with_reducible apply RowAt.keep; with_reducible assumption) | assumption | (focus ((repeat (first | with_reducible assumption | (with_reducible apply RowAt.le; rotate_left; with_reducible assumption) | (with_reducible apply RowB.le; rotate_left; with_reducible assumption))); done)))) | (with_reducible apply ex_side (a := (_, _)); (focus (with_reducible apply And.intro <;> (focus ((repeat (first | with_reducible assumption | (with_reducible apply RowAt.le; rotate_left; with_reducible assumption) | (with_reducible apply RowB.le; rotate_left; with_reducible assumption))); done))))))); (all_goals (conv => whnf)))
    (all_goals (try dsimp only [Q.eta, Sn.eta, SlV.eta] at *)); (all_goals (first | exact Side.mk trivial | with_reducible exact Side.mk rfl | exact Side.mk (fun _ _ h => h) | exact Side.mk (Made.le (by assumption)) | refine Side.mk ?_ | refine Don.mk ?_ | skip))
    all_goals first | (exfalso; exact hno (by assumption)) | exact ftxt_no' (by assumption)

end Go.Proofs.YtadliapkjijahaaGreatDoor
