/- Contracts of the functions that repeat an element and that make even scales; conditions: the bounds that each names. -/
import Derived.Test.YtlfhjmnaommckaaAb
import Derived.Test.YtlfhjmnaommckaaC1
import Derived.Test.YtlfhjmnaommckaaC2
import Derived.Test.YtlfhjmnaommckaaC3
import Derived.Test.YtlfhjmnaommckaaC4
import Derived.Test.YtlfhjmnaommckaaC5
import Derived.Test.YtlfhjmnaommckaaCL
import Derived.Test.YtlfhjmnaommckaaC6
import Derived.Test.YtlfhjmnaommckaaC7
import Derived.Test.YtlfhjmnaommckaaC8
import Derived.Test.YtlfhjmnaommckaaC9
import Derived.Test.YtlfhjmnaommckaaCO
import Derived.Test.YtlfhjmnaommckaaC12
import Derived.Test.YtlfhjmnaommckaaC14
import Derived.Test.YtlfhjmnaommckaaC15
import Derived.Test.YtlfhjmnaommckaaC16
import Derived.Test.YtlfhjmnaommckaaC17
import Derived.Test.YtlfhjmnaommckaaC25
import Derived.Test.YtlfhjmnaommckaaC30
import Derived.Test.YtlfhjmnaommckaaProg
set_option linter.unusedVariables false
set_option linter.unusedSimpArgs false
namespace Go.Proofs.Ytlfhjmnaommckaa
open Ab

def Arg.u64 : Arg Int where
  enc n := .int .u64 n
  dec | .int .u64 n => some n
      | _ => none
  ok := by intro v x h; split at h <;> simp_all
abbrev U2 : ArgL (Int × Int × Unit) := .cons Arg.u64 (.cons Arg.u64 .nil)
abbrev bmulSp : Sp := .pf U2 (fun x => x.1 = 1 ∧ 0 ≤ x.2.1 ∧ x.2.1 ≤ 60) (fun x => .tuple #[.int .u64 0, .int .u64 x.2.1])
theorem all61 (p : Int → Prop) (h : ∀ j : Fin 61, p ((j.1 : Nat) : Int)) (y : Int) (h0 : 0 ≤ y) (h1 : y ≤ 60) : p y := by
  have := h ⟨y.toNat, by omega⟩
  rwa [show ((y.toNat : Nat) : Int) = y by omega] at this
def bmA (a b : Int) : Int := IntKind.u64.wrap (((BitVec.ofInt IntKind.u64.bits a &&& BitVec.ofInt IntKind.u64.bits b).toNat : Nat) : Int)
def bmS (a : Int) : Int := a.fdiv (2 ^ min (Int.toNat 32) IntKind.u64.bits)
def bmM (a b : Int) : Int := IntKind.u64.wrap (a * b)
def bmP (a b : Int) : Int := IntKind.u64.wrap (a + b)
def bmT (y : Int) : Int := bmP (bmM (bmS 1) (bmA y 4294967295)) (bmS (bmM (bmA 1 4294967295) (bmA y 4294967295)))
def bm0 (y : Int) : Int := bmP (bmP (bmM (bmS 1) (bmS y)) (bmS (bmT y))) (bmS (bmP (bmA (bmT y) 4294967295) (bmM (bmA 1 4294967295) (bmS y))))
theorem tup_eq {a b c d : Int} (h : a = c) (k : b = d) : AV.v (.tuple #[.int .u64 a, .int .u64 b]) = AV.v (.tuple #[.int .u64 c, .int .u64 d]) := by rw [h, k]
set_option maxRecDepth 100000 in
theorem bmul64_ok : Sp.ok Try.prog 194 bmulSp := by
  refine Sp.pf_ok (T := ⟨[], []⟩) follows eqok0 trivial [] Try.func194 rfl (by kernel_rfl) _ _ _ fun x E hp => ?_
  obtain ⟨x, y, u⟩ := x
  obtain ⟨h, h0, h1⟩ := hp
  dsimp only at h h0 h1
  subst h
  (repeat' ((conv => whnf); (first | with_reducible apply And.intro | (with_reducible intro hh; first | (with_reducible have hx := NewRow.self hh; clear hx) | (with_reducible have hrow := Made.row hh; have hle := Made.le hh; have hmade := hh; clear hh) | (with_reducible have hrow := Fresh.rowS hh; have hle := Fresh.leS hh; have hfr := hh; clear hh) | (with_reducible have hx := Ext.self hh; clear hx) | (with_reducible have hx := SlV.self hh; clear hx) | (with_reducible have hx := Value.self hh; clear hx) | with_reducible cases hh | skip) | (with_reducible apply AllEq.mk; intro yy hq) | with_reducible apply trivial | with_reducible apply Exists.intro () | (with_reducible apply ex_side; (first | with_reducible assumption | with_reducible apply fracs1 | with_reducible apply fracs2 | with_reducible apply fracs3 | with_reducible apply spans1 | with_reducible apply spans2 | (with_reducible apply NewRow.keep; with_reducible assumption) | (with_reducible apply RowAt.keep; with_reducible assumption) | assumption | (focus ((repeat (first | with_reducible assumption | (with_reducible apply RowAt.le; rotate_left; with_reducible assumption) | (with_reducible apply RowB.le; rotate_left; with_reducible assumption))); done)))) | (with_reducible apply ex_side (a := (_, _)); (focus (with_reducible apply And.intro <;> (focus ((repeat (first | with_reducible assumption | (with_reducible apply RowAt.le; rotate_left; with_reducible assumption) | (with_reducible apply RowB.le; rotate_left; with_reducible assumption))); done))))))); (all_goals (conv => whnf)))
  (all_goals (try dsimp only [Q.eta, Sn.eta, SlV.eta] at *)); (all_goals (first | exact Side.mk trivial | with_reducible exact Side.mk rfl | exact Side.mk (fun _ _ h => h) | exact Side.mk (Made.le (by assumption)) | refine Side.mk ?_ | refine Don.mk ?_ | skip))
  dsimp only
  refine tup_eq ?_ ?_
  · exact all61 (fun y => bm0 y = 0) (by decide +kernel) y h0 h1
  · exact all61 (fun y => IntKind.u64.wrap (1 * y) = y) (by decide +kernel) y h0 h1
set_option maxRecDepth 100000 in
theorem bmul_ok : Sp.ok Try.prog 176 bmulSp := by
  refine Sp.pf_ok (T := ⟨[(194, bmulSp)], []⟩) follows eqok0 ⟨enters Try.func194 rfl rfl, bmul64_ok, trivial⟩ [] Try.func176 rfl (by kernel_rfl) _ _ _ fun x E hp => ?_
  obtain ⟨x, y, u⟩ := x
  (repeat' ((conv => whnf); (first | with_reducible apply And.intro | (with_reducible intro hh; first | (with_reducible have hx := NewRow.self hh; clear hx) | (with_reducible have hrow := Made.row hh; have hle := Made.le hh; have hmade := hh; clear hh) | (with_reducible have hrow := Fresh.rowS hh; have hle := Fresh.leS hh; have hfr := hh; clear hh) | (with_reducible have hx := Ext.self hh; clear hx) | (with_reducible have hx := SlV.self hh; clear hx) | (with_reducible have hx := Value.self hh; clear hx) | with_reducible cases hh | skip) | (with_reducible apply AllEq.mk; intro yy hq) | with_reducible apply trivial | with_reducible apply Exists.intro () | (with_reducible apply ex_side; (first | with_reducible assumption | with_reducible apply fracs1 | with_reducible apply fracs2 | with_reducible apply fracs3 | with_reducible apply spans1 | with_reducible apply spans2 | (with_reducible apply NewRow.keep; with_reducible assumption) | (with_reducible apply RowAt.keep; with_reducible assumption) | assumption | (focus ((repeat (first | with_reducible assumption | (with_reducible apply RowAt.le; rotate_left; with_reducible assumption) | (with_reducible apply RowB.le; rotate_left; with_reducible assumption))); done)))) | (with_reducible apply ex_side (a := (_, _)); (focus (with_reducible apply And.intro <;> (focus ((repeat (first | with_reducible assumption | (with_reducible apply RowAt.le; rotate_left; with_reducible assumption) | (with_reducible apply RowB.le; rotate_left; with_reducible assumption))); done))))))); (all_goals (conv => whnf)))
  (all_goals (try dsimp only [Q.eta, Sn.eta, SlV.eta] at *)); (all_goals (first | exact Side.mk trivial | with_reducible exact Side.mk rfl | exact Side.mk (fun _ _ h => h) | exact Side.mk (Made.le (by assumption)) | refine Side.mk ?_ | refine Don.mk ?_ | skip))
  all_goals first | exact hp | rfl
abbrev repSp : Sp := .nf SI (fun x (q : Q) E => FracsAt x.1 [q] E ∧ 2 ≤ x.2.1 ∧ x.2.1 ≤ 60) (fun _ _ y => SlV.v y) (fun x q y E E' => Side (Fresh 25 2 Q.cells y (List.replicate x.2.1.toNat q) E E'))
/-- A row of which the first elements are one. -/
structure RepTo (b : Nat) (q : Q) (k : Nat) (E1 E' : Ext) : Prop where
  own : E'.own = E1.own
  other : ∀ a, a.block ≠ b → E' a = E1 a
  cells : ∀ j, j < k → E' ⟨b, j * 2, none⟩ = some (.int .i64 q.p) ∧ E' ⟨b, j * 2 + 1, none⟩ = some (.int .i64 q.q)
theorem q_cells_ok (q : Q) : ∀ u ∈ q.cells, cellOk u = true := by simp [Q.cells, cellOk]
theorem rep_flat (m : Nat) (q : Q) : ((List.replicate m q).flatMap Q.cells).length = m * 2 := by
  induction m with
  | zero => rfl
  | succ m ih => rw [List.replicate_succ, List.flatMap_cons, List.length_append, ih]; show 2 + m * 2 = _; omega
theorem RepTo.step {b : Nat} {q : Q} {k m : Nat} {E1 E' : Ext} (h : RepTo b q k E1 E') : RepTo b q (k + m) E1 (E'.upd b (k * 2) ((List.replicate m q).flatMap Q.cells)) := by
  have hl : ((List.replicate m q).flatMap Q.cells).length = m * 2 := by
    induction m with
    | zero => rfl
    | succ m ih => rw [List.replicate_succ, List.flatMap_cons, List.length_append, ih]; show 2 + m * 2 = _; omega
  refine ⟨h.own, fun a ha => (upd_other ha).trans (h.other a ha), fun j hj => ?_⟩
  by_cases hjk : j < k
  · obtain ⟨h1, h2⟩ := h.cells j hjk
    refine ⟨?_, ?_⟩
    · rw [upd_out (.inl (by omega))]; exact h1
    · rw [upd_out (.inl (by omega))]; exact h2
  · have hx : (List.replicate m q)[j - k]? = some q := by rw [List.getElem?_replicate, if_pos (by omega)]
    have g0 := flat_at (enc := Q.cells) (c := 2) (fun _ => rfl) hx (j := 0) rfl
    have g1 := flat_at (enc := Q.cells) (c := 2) (fun _ => rfl) hx (j := 1) rfl
    refine ⟨?_, ?_⟩
    · rw [upd_in (by omega) (by omega), show j * 2 - k * 2 = (j - k) * 2 + 0 by omega]; exact g0
    · rw [upd_in (by omega) (by omega), show j * 2 + 1 - k * 2 = (j - k) * 2 + 1 by omega]; exact g1
/-- What a new row comes to. -/
structure NewAt (E E1 : Ext) (b : Nat) (p : Nat × TypeId) : Prop where
  own : E1.own b = some p
  other : ∀ a v, E a = some v → a.block ≠ b ∧ E1 a = some v
  own' : ∀ b', b' ≠ b → E1.own b' = E.own b'
  at' : ∀ a, a.block ≠ b → E1 a = E a
  fresho : E.own b = none
theorem NewRow.newAt {E : Ext} {cs : List Value} {e : TypeId} (r : NewRow E cs e) {n : Nat} (h : cs.length = n) : NewAt E r.to r.b (n, e) := ⟨by rw [new_own, h], new_other r, fun _ h => new_own' r h, fun _ h => new_at r h, r.fresho⟩
theorem RepTo.done {E E1 E' : Ext} {b : Nat} {e : TypeId} {n : Nat} {q : Q} (r : NewAt E E1 b (n * 2, e)) (h : RepTo b q n E1 E') (hn : n ≤ maxLen) : Fresh e 2 Q.cells ⟨some ⟨b, 0, none⟩, n, n⟩ (List.replicate n q) E E' := by
  refine ⟨⟨by simp, hn, fun h => (by cases h), fun a ha i x hx j v hj => ?_⟩, fun a v ha => ?_, fun b' p hb => ?_, .inr ⟨b, rfl, ⟨_, by rw [h.own, r.own], Nat.le_refl _⟩, r.fresho, fun a v ha => (r.other a v ha).1⟩⟩
  · simp only [Option.some.injEq] at ha
    subst ha
    rw [List.getElem?_replicate] at hx
    split at hx
    · rename_i hi
      cases hx
      obtain ⟨g0, g1⟩ := h.cells i hi
      rw [Go.Deep.add_add, addr_add, Nat.zero_add]
      match j, hj with
      | 0, hj => cases hj; exact g0
      | 1, hj => cases hj; exact g1
    · cases hx
  · rw [h.other a (r.other a v ha).1]
    exact (r.other a v ha).2
  · have hne : b' ≠ b := fun e => by rw [e, r.fresho] at hb; cases hb
    exact ⟨by rw [h.own, r.own' b' hne]; exact hb, fun a ha => by rw [h.other a (by rw [ha]; exact hne), r.at' a (by rw [ha]; exact hne)]⟩

set_option maxHeartbeats 2000000 in
set_option maxRecDepth 100000 in
theorem rep_ok : Sp.ok Try.prog 141 repSp := by
  refine Sp.nf_ok (T := ⟨[(176, bmulSp)], []⟩) follows eqok0 ⟨enters Try.func176 rfl rfl, bmul_ok, trivial⟩ [(9, .take 0 (.take 1 (.take 2 (.take 3 (.take 4 (.take 5 (.take 6 (.alt 7 (.take 8 (.take 9 (.done))) (.last)))))))))] Try.func141 rfl (by kernel_rfl) _ _ _ _ fun x q E hp => ?_
  obtain ⟨⟨sa, n1, c⟩, m, u⟩ := x
  obtain ⟨hr, hm0, hm1⟩ := hp
  dsimp only at hr hm0 hm1
  have hn1 : n1 = 1 := hr.1
  subst hn1
  obtain ⟨n, rfl⟩ : ∃ n : Nat, m = n := ⟨m.toNat, by omega⟩
  cases sa with
  | none => have := hr.2.2.1 rfl; cases this
  | some a =>
  obtain ⟨h0, h1⟩ := FracsAt.at hr (a := a) (k := 0) rfl rfl
  have hw : IntKind.i64.wrap (IntKind.u64.wrap (n : Int)) = n := by
    rw [show IntKind.u64.wrap (n : Int) = n by simp [IntKind.wrap, IntKind.signed, IntKind.bits]; omega]
    exact wrap_in (by omega) (by omega)
  have hwu : IntKind.u64.wrap (n : Int) = n := by simp [IntKind.wrap, IntKind.signed, IntKind.bits]; omega
  have hN : (IntKind.i64.wrap (IntKind.u64.wrap (n : Int))).toNat = n := by rw [hw]; exact Int.toNat_natCast n
  (repeat' ((conv => whnf); (first | with_reducible apply And.intro | (with_reducible intro hh; first | (with_reducible have hx := NewRow.self hh; clear hx) | (with_reducible have hrow := Made.row hh; have hle := Made.le hh; have hmade := hh; clear hh) | (with_reducible have hrow := Fresh.rowS hh; have hle := Fresh.leS hh; have hfr := hh; clear hh) | (with_reducible have hx := Ext.self hh; clear hx) | (with_reducible have hx := SlV.self hh; clear hx) | (with_reducible have hx := Value.self hh; clear hx) | with_reducible cases hh | skip) | (with_reducible apply AllEq.mk; intro yy hq) | with_reducible apply trivial | with_reducible apply Exists.intro () | (with_reducible apply ex_side; (first | with_reducible assumption | with_reducible apply fracs1 | with_reducible apply fracs2 | with_reducible apply fracs3 | with_reducible apply spans1 | with_reducible apply spans2 | (with_reducible apply NewRow.keep; with_reducible assumption) | (with_reducible apply RowAt.keep; with_reducible assumption) | assumption | (focus ((repeat (first | with_reducible assumption | (with_reducible apply RowAt.le; rotate_left; with_reducible assumption) | (with_reducible apply RowB.le; rotate_left; with_reducible assumption))); done)))) | (with_reducible apply ex_side (a := (_, _)); (focus (with_reducible apply And.intro <;> (focus ((repeat (first | with_reducible assumption | (with_reducible apply RowAt.le; rotate_left; with_reducible assumption) | (with_reducible apply RowB.le; rotate_left; with_reducible assumption))); done))))))); (all_goals (conv => whnf)))
  (all_goals (try dsimp only [Q.eta, Sn.eta, SlV.eta] at *)); (all_goals (first | exact Side.mk trivial | with_reducible exact Side.mk rfl | exact Side.mk (fun _ _ h => h) | exact Side.mk (Made.le (by assumption)) | refine Side.mk ?_ | refine Don.mk ?_ | skip))
  all_goals try (exfalso; have h9 := of_decide_eq_true (by assumption : decide ((n : Int) < 0) = true); omega)
  all_goals try (exfalso; have h9 := of_decide_eq_true (by assumption : decide (IntKind.u64.wrap (n : Int) > 9223372036854775807) = true); omega)
  all_goals try (exfalso; have h9 := of_decide_eq_true (by assumption : decide ((0 : Int) > 0) = true); omega)
  · rw [hwu]; exact ⟨by decide, by omega, by omega⟩
  · rw [hw]; omega
  have hna := NewRow.newAt hh (n := n * 2) (by rw [zeroRow_len, show (IntKind.i64.wrap (IntKind.u64.wrap (n : Int))).toNat = n from hN]; rfl)
  revert hna
  generalize hh.to = E1
  generalize hh.b = b
  intro hna
  clear hh
  have e0 : E1 (a.add 0) = some (.int .i64 q.p) := by
    have := h0
    rw [Go.Deep.add_add] at this
    exact (hna.other _ _ this).2
  have e1 : E1 (a.add 1) = some (.int .i64 q.q) := by
    have := h1
    rw [Go.Deep.add_add] at this
    exact (hna.other _ _ this).2
  have hcp : CopyPre E1 2 ⟨b, 0, none⟩ (IntKind.i64.wrap (IntKind.u64.wrap (n : Int))).toNat ⟨some a, 1, c⟩ q.cells := by
    refine ⟨?_, ⟨rfl, _, hna.own, ?_⟩, fun h => (by cases h), fun a' ha j v hj => ?_, ?_⟩
    · show 2 = _
      rw [hN]
      show 2 = min 1 n * 2
      omega
    · show 0 + 2 ≤ n * 2
      omega
    · cases ha
      match j, hj with
      | 0, hj => cases hj; exact e0
      | 1, hj => cases hj; exact e1
    · simp [Q.cells, cellOk]
  have hR1 : RepTo b q 1 E1 (E1.upd b 0 q.cells) := by
    refine ⟨rfl, fun a ha => upd_other ha, fun j hj => ?_⟩
    obtain rfl : j = 0 := by omega
    refine ⟨?_, ?_⟩
    · rw [upd_in (by omega) (by show _ < 0 + 2; omega)]; rfl
    · rw [upd_in (by omega) (by show _ < 0 + 2; omega)]; rfl
  refine ⟨(⟨b, 0, none⟩, q.cells), Side.mk ⟨rfl, hcp⟩, ?_⟩
  clear hcp e0 e1 h0 h1
  have hmin : ((min 1 (IntKind.i64.wrap (IntKind.u64.wrap (n : Int))).toNat : Nat) : Int) = ((1 : Nat) : Int) := by rw [hN]; omega
  (repeat' ((conv => whnf); (first | with_reducible apply And.intro | (with_reducible intro hh; first | (with_reducible have hx := NewRow.self hh; clear hx) | (with_reducible have hrow := Made.row hh; have hle := Made.le hh; have hmade := hh; clear hh) | (with_reducible have hrow := Fresh.rowS hh; have hle := Fresh.leS hh; have hfr := hh; clear hh) | (with_reducible have hx := Ext.self hh; clear hx) | (with_reducible have hx := SlV.self hh; clear hx) | (with_reducible have hx := Value.self hh; clear hx) | with_reducible cases hh | skip) | (with_reducible apply AllEq.mk; intro yy hq) | with_reducible apply trivial | with_reducible apply Exists.intro () | (with_reducible apply ex_side; (first | with_reducible assumption | with_reducible apply fracs1 | with_reducible apply fracs2 | with_reducible apply fracs3 | with_reducible apply spans1 | with_reducible apply spans2 | (with_reducible apply NewRow.keep; with_reducible assumption) | (with_reducible apply RowAt.keep; with_reducible assumption) | assumption | (focus ((repeat (first | with_reducible assumption | (with_reducible apply RowAt.le; rotate_left; with_reducible assumption) | (with_reducible apply RowB.le; rotate_left; with_reducible assumption))); done)))) | (with_reducible apply ex_side (a := (_, _)); (focus (with_reducible apply And.intro <;> (focus ((repeat (first | with_reducible assumption | (with_reducible apply RowAt.le; rotate_left; with_reducible assumption) | (with_reducible apply RowB.le; rotate_left; with_reducible assumption))); done))))))); (all_goals (conv => whnf)))
  (all_goals (try dsimp only [Q.eta, Sn.eta, SlV.eta] at *)); (all_goals (first | exact Side.mk trivial | with_reducible exact Side.mk rfl | exact Side.mk (fun _ _ h => h) | exact Side.mk (Made.le (by assumption)) | refine Side.mk ?_ | refine Don.mk ?_ | skip))
  refine ⟨fun m s => ∃ (k : Nat) (i : Int) (E' : Ext) (g0 g1 g2 g3 g4 g5 g6 g9 g10 g11 g12 g13 g14 g15 g16 g17 g18 g19 g20 g21 g22 g23 g24 g25 g26 g27 g28 g29 g30 g31 g32 g33 g34 g35 g36 g37 g38 g39 g40 g41 g42 g43 g44 g45 g46 g47 : AV), m = n - k ∧ 1 ≤ k ∧ k ≤ n ∧ i = (k : Int) ∧ RepTo b q k E1 E' ∧ s = ⟨[g0, g1, g2, g3, g4, g5, g6, .v (.slice (some ⟨b, 0, none⟩) (IntKind.i64.wrap (IntKind.u64.wrap (n : Int))).toNat (IntKind.i64.wrap (IntKind.u64.wrap (n : Int))).toNat), .v (.int .i64 i), g9, g10, g11, g12, g13, g14, g15, g16, g17, g18, g19, g20, g21, g22, g23, g24, g25, g26, g27, g28, g29, g30, g31, g32, g33, g34, g35, g36, g37, g38, g39, g40, g41, g42, g43, g44, g45, g46, g47], [], E'⟩, ⟨_, 1, _, _, _, _, _, _, _, _, _, _, _, _, _, _, _, _, _, _, _, _, _, _, _, _, _, _, _, _, _, _, _, _, _, _, _, _, _, _, _, _, _, _, _, _, _, _, _, _, rfl, Nat.le_refl _, by omega, hmin, hR1, rfl⟩, ?_⟩
  rintro m s ⟨k, i, E', g0, g1, g2, g3, g4, g5, g6, g9, g10, g11, g12, g13, g14, g15, g16, g17, g18, g19, g20, g21, g22, g23, g24, g25, g26, g27, g28, g29, g30, g31, g32, g33, g34, g35, g36, g37, g38, g39, g40, g41, g42, g43, g44, g45, g46, g47, rfl, hk1, hk, rfl, hM, rfl⟩
  clear hR1 hmin
  by_cases hlt : k < n
  · (repeat' ((conv => whnf); (first | with_reducible apply And.intro | (with_reducible intro hh; first | (with_reducible have hx := NewRow.self hh; clear hx) | (with_reducible have hrow := Made.row hh; have hle := Made.le hh; have hmade := hh; clear hh) | (with_reducible have hrow := Fresh.rowS hh; have hle := Fresh.leS hh; have hfr := hh; clear hh) | (with_reducible have hx := Ext.self hh; clear hx) | (with_reducible have hx := SlV.self hh; clear hx) | (with_reducible have hx := Value.self hh; clear hx) | with_reducible cases hh | skip) | (with_reducible apply AllEq.mk; intro yy hq) | with_reducible apply trivial | with_reducible apply Exists.intro () | (with_reducible apply ex_side; (first | with_reducible assumption | with_reducible apply fracs1 | with_reducible apply fracs2 | with_reducible apply fracs3 | with_reducible apply spans1 | with_reducible apply spans2 | (with_reducible apply NewRow.keep; with_reducible assumption) | (with_reducible apply RowAt.keep; with_reducible assumption) | assumption | (focus ((repeat (first | with_reducible assumption | (with_reducible apply RowAt.le; rotate_left; with_reducible assumption) | (with_reducible apply RowB.le; rotate_left; with_reducible assumption))); done)))) | (with_reducible apply ex_side (a := (_, _)); (focus (with_reducible apply And.intro <;> (focus ((repeat (first | with_reducible assumption | (with_reducible apply RowAt.le; rotate_left; with_reducible assumption) | (with_reducible apply RowB.le; rotate_left; with_reducible assumption))); done))))))); (all_goals (conv => whnf)))
    (all_goals (try dsimp only [Q.eta, Sn.eta, SlV.eta] at *)); (all_goals (first | exact Side.mk trivial | with_reducible exact Side.mk rfl | exact Side.mk (fun _ _ h => h) | exact Side.mk (Made.le (by assumption)) | refine Side.mk ?_ | refine Don.mk ?_ | skip))
    all_goals try (exfalso; have h9 := of_decide_eq_false (by assumption : decide ((k : Int) < ((IntKind.i64.wrap (IntKind.u64.wrap (n : Int))).toNat : Int)) = false); rw [hN] at h9; omega)
    all_goals first | (rw [hN]; omega) | skip
    have hkt : (k : Int).toNat = k := Int.toNat_natCast k
    have hm1' : min k (n - k) ≤ k := Nat.min_le_left _ _
    have hm2' : min k (n - k) ≤ n - k := Nat.min_le_right _ _
    have hlen : ((List.replicate (min k (n - k)) q).flatMap Q.cells).length = min k (n - k) * 2 := rep_flat _ _
    have hA : partA (some ⟨b, 0, none⟩) (IntKind.i64.wrap (IntKind.u64.wrap (n : Int))).toNat (k : Int).toNat 2 = some ⟨b, k * 2, none⟩ := by
      unfold partA
      rw [hN, hkt, if_neg (by omega), Option.map_some, addr_add, Nat.zero_add]
    have hA0 : partA (some ⟨b, 0, none⟩) (IntKind.i64.wrap (IntKind.u64.wrap (n : Int))).toNat (0 : Int).toNat 2 = some ⟨b, 0, none⟩ := by
      unfold partA
      rw [hN]
      split
      · rfl
      · rfl
    have hmn : ((min ((k : Int).toNat - (0 : Int).toNat) ((IntKind.i64.wrap (IntKind.u64.wrap (n : Int))).toNat - (k : Int).toNat) : Nat) : Int) = ((min k (n - k) : Nat) : Int) := by rw [hN, hkt]; rfl
    have hcp : CopyPre E' 2 ⟨b, k * 2, none⟩ ((IntKind.i64.wrap (IntKind.u64.wrap (n : Int))).toNat - (k : Int).toNat) ⟨partA (some ⟨b, 0, none⟩) (IntKind.i64.wrap (IntKind.u64.wrap (n : Int))).toNat (0 : Int).toNat 2, (k : Int).toNat - (0 : Int).toNat, (IntKind.i64.wrap (IntKind.u64.wrap (n : Int))).toNat - (0 : Int).toNat⟩ ((List.replicate (min k (n - k)) q).flatMap Q.cells) := by
      refine ⟨?_, ⟨rfl, _, by rw [hM.own]; exact hna.own, ?_⟩, fun h => (by dsimp only at h; rw [hA0] at h; cases h), fun a' ha j v hj => ?_, ?_⟩
      · rw [hlen, hN, hkt]; rfl
      · rw [hlen]
        show k * 2 + min k (n - k) * 2 ≤ n * 2
        omega
      · dsimp only at ha
        rw [hA0] at ha
        cases ha
        have hjl := (List.getElem?_eq_some_iff.1 hj).1
        rw [hlen] at hjl
        have hx : (List.replicate (min k (n - k)) q)[j / 2]? = some q := by rw [List.getElem?_replicate, if_pos (by omega)]
        obtain ⟨c0, c1⟩ := hM.cells (j / 2) (by omega)
        rw [addr_add, Nat.zero_add]
        rcases Nat.mod_two_eq_zero_or_one j with h | h
        · have g0 := flat_at (enc := Q.cells) (c := 2) (fun _ => rfl) hx (j := 0) rfl
          rw [show j / 2 * 2 + 0 = j by omega, hj] at g0
          cases g0
          rw [show j = j / 2 * 2 by omega]
          exact c0
        · have g0 := flat_at (enc := Q.cells) (c := 2) (fun _ => rfl) hx (j := 1) rfl
          rw [show j / 2 * 2 + 1 = j by omega, hj] at g0
          cases g0
          rw [show j = j / 2 * 2 + 1 by omega]
          exact c1
      · intro u hu
        obtain ⟨x, hx, hu⟩ := List.mem_flatMap.1 hu
        exact q_cells_ok x u hu
    refine ⟨(⟨b, k * 2, none⟩, (List.replicate (min k (n - k)) q).flatMap Q.cells), Side.mk ⟨hA, hcp⟩, ?_⟩
    clear hcp hA hA0
    (repeat' ((conv => whnf); (first | with_reducible apply And.intro | (with_reducible intro hh; first | (with_reducible have hx := NewRow.self hh; clear hx) | (with_reducible have hrow := Made.row hh; have hle := Made.le hh; have hmade := hh; clear hh) | (with_reducible have hrow := Fresh.rowS hh; have hle := Fresh.leS hh; have hfr := hh; clear hh) | (with_reducible have hx := Ext.self hh; clear hx) | (with_reducible have hx := SlV.self hh; clear hx) | (with_reducible have hx := Value.self hh; clear hx) | with_reducible cases hh | skip) | (with_reducible apply AllEq.mk; intro yy hq) | with_reducible apply trivial | with_reducible apply Exists.intro () | (with_reducible apply ex_side; (first | with_reducible assumption | with_reducible apply fracs1 | with_reducible apply fracs2 | with_reducible apply fracs3 | with_reducible apply spans1 | with_reducible apply spans2 | (with_reducible apply NewRow.keep; with_reducible assumption) | (with_reducible apply RowAt.keep; with_reducible assumption) | assumption | (focus ((repeat (first | with_reducible assumption | (with_reducible apply RowAt.le; rotate_left; with_reducible assumption) | (with_reducible apply RowB.le; rotate_left; with_reducible assumption))); done)))) | (with_reducible apply ex_side (a := (_, _)); (focus (with_reducible apply And.intro <;> (focus ((repeat (first | with_reducible assumption | (with_reducible apply RowAt.le; rotate_left; with_reducible assumption) | (with_reducible apply RowB.le; rotate_left; with_reducible assumption))); done))))))); (all_goals (conv => whnf)))
    (all_goals (try dsimp only [Q.eta, Sn.eta, SlV.eta] at *)); (all_goals (first | exact Side.mk trivial | with_reducible exact Side.mk rfl | exact Side.mk (fun _ _ h => h) | exact Side.mk (Made.le (by assumption)) | refine Side.mk ?_ | refine Don.mk ?_ | skip))
    refine ⟨_, ?_, k + min k (n - k), _, _, _, _, _, _, _, _, _, _, _, _, _, _, _, _, _, _, _, _, _, _, _, _, _, _, _, _, _, _, _, _, _, _, _, _, _, _, _, _, _, _, _, _, _, _, _, _, rfl, by omega, by omega, ?_, RepTo.step hM, rfl⟩
    · omega
    · rw [hmn, wrap_in (by omega) (by omega)]; rfl
  · obtain rfl : k = n := by omega
    (repeat' ((conv => whnf); (first | with_reducible apply And.intro | (with_reducible intro hh; first | (with_reducible have hx := NewRow.self hh; clear hx) | (with_reducible have hrow := Made.row hh; have hle := Made.le hh; have hmade := hh; clear hh) | (with_reducible have hrow := Fresh.rowS hh; have hle := Fresh.leS hh; have hfr := hh; clear hh) | (with_reducible have hx := Ext.self hh; clear hx) | (with_reducible have hx := SlV.self hh; clear hx) | (with_reducible have hx := Value.self hh; clear hx) | with_reducible cases hh | skip) | (with_reducible apply AllEq.mk; intro yy hq) | with_reducible apply trivial | with_reducible apply Exists.intro () | (with_reducible apply ex_side; (first | with_reducible assumption | with_reducible apply fracs1 | with_reducible apply fracs2 | with_reducible apply fracs3 | with_reducible apply spans1 | with_reducible apply spans2 | (with_reducible apply NewRow.keep; with_reducible assumption) | (with_reducible apply RowAt.keep; with_reducible assumption) | assumption | (focus ((repeat (first | with_reducible assumption | (with_reducible apply RowAt.le; rotate_left; with_reducible assumption) | (with_reducible apply RowB.le; rotate_left; with_reducible assumption))); done)))) | (with_reducible apply ex_side (a := (_, _)); (focus (with_reducible apply And.intro <;> (focus ((repeat (first | with_reducible assumption | (with_reducible apply RowAt.le; rotate_left; with_reducible assumption) | (with_reducible apply RowB.le; rotate_left; with_reducible assumption))); done))))))); (all_goals (conv => whnf)))
    (all_goals (try dsimp only [Q.eta, Sn.eta, SlV.eta] at *)); (all_goals (first | exact Side.mk trivial | with_reducible exact Side.mk rfl | exact Side.mk (fun _ _ h => h) | exact Side.mk (Made.le (by assumption)) | refine Side.mk ?_ | refine Don.mk ?_ | skip))
    all_goals try (exfalso; have h9 := of_decide_eq_true (by assumption : decide ((k : Int) < ((IntKind.i64.wrap (IntKind.u64.wrap (k : Int))).toNat : Int)) = true); rw [hN] at h9; omega)
    refine ⟨⟨some ⟨b, 0, none⟩, k, k⟩, ?_, ?_⟩
    · rw [hN]; rfl
    · rw [Int.toNat_natCast]
      exact Side.mk (RepTo.done hna hM (by unfold maxLen; omega))
/-! even scales -/
def evR (u : Q) (n : Int) : (Q × List Q) × Int := if okQ u then (if witQ u 1000 && withinB n 2 60 then (if okC u (List.replicate n.toNat Q1) then ((u, List.replicate n.toNat Q1), 0) else ((Q0, []), 3)) else ((Q0, []), 2)) else ((Q0, []), 1)
theorem evR_1 {u : Q} {n : Int} (h : okQ u = false) : evR u n = ((Q0, []), 1) := by unfold evR; rw [if_neg (by simp [h])]
theorem evR_2 {u : Q} {n : Int} (h : okQ u = true) (h2 : (witQ u 1000 && withinB n 2 60) = false) : evR u n = ((Q0, []), 2) := by unfold evR; rw [if_pos h, if_neg (by simp [h2])]
theorem evR_3 {u : Q} {n : Int} (h : okQ u = true) (h2 : (witQ u 1000 && withinB n 2 60) = true) (h3 : okC u (List.replicate n.toNat Q1) = false) : evR u n = ((Q0, []), 3) := by unfold evR; rw [if_pos h, if_pos h2, if_neg (by simp [h3])]
theorem evR_4 {u : Q} {n : Int} (h : okQ u = true) (h2 : (witQ u 1000 && withinB n 2 60) = true) (h3 : okC u (List.replicate n.toNat Q1) = true) : evR u n = ((u, List.replicate n.toNat Q1), 0) := by unfold evR; rw [if_pos h, if_pos h2, if_pos h3]
abbrev QI1 : ArgL (Q × Int × Unit) := .cons .frac (.cons .int .nil)
abbrev RSc (u : Q) (y : SlV) (c : Int) : Value := .tuple #[Scl.v ⟨u, y⟩, .int .i64 c]
abbrev evSp : Sp := .nf QI1 (fun _ (_ : Unit) _ => True) (fun x _ (y : SlV) => RSc (evR x.1 x.2.1).1.1 y (evR x.1 x.2.1).2) (fun x _ y E E' => Side (Fresh 25 2 Q.cells y (evR x.1 x.2.1).1.2 E E'))
theorem unit_wit {u : Q} (h : okQ u = true) : (decide (u.p > 0) && decide (cmpQ u ⟨1000, 1⟩ ≤ 0)) = witQ u 1000 := by
  unfold witQ
  rw [h]
  rfl
set_option maxHeartbeats 2000000 in
set_option maxRecDepth 100000 in
theorem even_ok : Sp.ok Try.prog 71 evSp := by
  refine Sp.nf_ok (T := ⟨[(96, validSp), (140, unitSp), (95, withinSp), (142, zeroSp), (141, repSp), (133, scaleOkVSp)], []⟩) follows eqok0 ⟨enters Try.func96 rfl rfl, valid_ok, enters Try.func140 rfl rfl, unit_ok, enters Try.func95 rfl rfl, within_ok, enters Try.func142 rfl rfl, zero_ok, enters Try.func141 rfl rfl, rep_ok, enters Try.func133 rfl rfl, scaleV_ok, trivial⟩ [(5, .take 0 (.take 3 (.alt 1 (.alt 2 (.alt 4 (.take 5 (.alt 6 (.alt 7 (.done) (.last)) (.last))) (.alt 6 (.alt 4 (.take 5 (.alt 7 (.done) (.last))) (.last)) (.last))) (.alt 6 (.alt 2 (.alt 4 (.take 5 (.alt 7 (.done) (.last))) (.last)) (.last)) (.last))) (.alt 6 (.alt 1 (.alt 2 (.alt 4 (.take 5 (.alt 7 (.done) (.last))) (.last)) (.last)) (.last)) (.last)))))] Try.func71 rfl (by kernel_rfl) _ _ _ _ fun x l E hp => ?_
  obtain ⟨⟨a, b⟩, n, u⟩ := x
  by_cases hv : okQ ⟨a, b⟩ = true
  · have hu := unit_wit hv
    by_cases hw : (witQ ⟨a, b⟩ 1000 && withinB n 2 60) = true
    · have hw' := hw
      rw [Bool.and_eq_true] at hw'
      have h60 := within_iff.1 hw'.2
      (repeat' ((conv => whnf); (first | with_reducible apply And.intro | (with_reducible intro hh; first | (with_reducible have hx := NewRow.self hh; clear hx) | (with_reducible have hrow := Made.row hh; have hle := Made.le hh; have hmade := hh; clear hh) | (with_reducible have hrow := Fresh.rowS hh; have hle := Fresh.leS hh; have hfr := hh; clear hh) | (with_reducible have hx := Ext.self hh; clear hx) | (with_reducible have hx := SlV.self hh; clear hx) | (with_reducible have hx := Value.self hh; clear hx) | with_reducible cases hh | skip) | (with_reducible apply AllEq.mk; intro yy hq) | with_reducible apply trivial | with_reducible apply Exists.intro () | (with_reducible apply ex_side; (first | with_reducible assumption | with_reducible apply fracs1 | with_reducible apply fracs2 | with_reducible apply fracs3 | with_reducible apply spans1 | with_reducible apply spans2 | (with_reducible apply NewRow.keep; with_reducible assumption) | (with_reducible apply RowAt.keep; with_reducible assumption) | assumption | (focus ((repeat (first | with_reducible assumption | (with_reducible apply RowAt.le; rotate_left; with_reducible assumption) | (with_reducible apply RowB.le; rotate_left; with_reducible assumption))); done)))) | (with_reducible apply ex_side (a := (_, _)); (focus (with_reducible apply And.intro <;> (focus ((repeat (first | with_reducible assumption | (with_reducible apply RowAt.le; rotate_left; with_reducible assumption) | (with_reducible apply RowB.le; rotate_left; with_reducible assumption))); done))))))); (all_goals (conv => whnf)))
      (all_goals (try dsimp only [Q.eta, Sn.eta, SlV.eta] at *)); (all_goals (first | exact Side.mk trivial | with_reducible exact Side.mk rfl | exact Side.mk (fun _ _ h => h) | exact Side.mk (Made.le (by assumption)) | refine Side.mk ?_ | refine Don.mk ?_ | skip))
      all_goals first
        | exact hv
        | (exfalso; have h9 := (by assumption : (!okQ ⟨a, b⟩) = true); rw [hv] at h9; cases h9)
        | (exfalso; have h9 := (by assumption : (!(decide (a > 0) && decide (cmpQ ⟨a, b⟩ ⟨1000, 1⟩ ≤ 0))) = true); rw [hu, hw'.1] at h9; cases h9)
        | (exfalso; have h9 := (by assumption : (!withinB n 2 60) = true); rw [hw'.2] at h9; cases h9)
        | skip
      all_goals (
        refine ⟨_, Side.mk ⟨fracs1 hh, h60⟩, ?_⟩
        (repeat' ((conv => whnf); (first | with_reducible apply And.intro | (with_reducible intro hh; first | (with_reducible have hx := NewRow.self hh; clear hx) | (with_reducible have hrow := Made.row hh; have hle := Made.le hh; have hmade := hh; clear hh) | (with_reducible have hrow := Fresh.rowS hh; have hle := Fresh.leS hh; have hfr := hh; clear hh) | (with_reducible have hx := Ext.self hh; clear hx) | (with_reducible have hx := SlV.self hh; clear hx) | (with_reducible have hx := Value.self hh; clear hx) | with_reducible cases hh | skip) | (with_reducible apply AllEq.mk; intro yy hq) | with_reducible apply trivial | with_reducible apply Exists.intro () | (with_reducible apply ex_side; (first | with_reducible assumption | with_reducible apply fracs1 | with_reducible apply fracs2 | with_reducible apply fracs3 | with_reducible apply spans1 | with_reducible apply spans2 | (with_reducible apply NewRow.keep; with_reducible assumption) | (with_reducible apply RowAt.keep; with_reducible assumption) | assumption | (focus ((repeat (first | with_reducible assumption | (with_reducible apply RowAt.le; rotate_left; with_reducible assumption) | (with_reducible apply RowB.le; rotate_left; with_reducible assumption))); done)))) | (with_reducible apply ex_side (a := (_, _)); (focus (with_reducible apply And.intro <;> (focus ((repeat (first | with_reducible assumption | (with_reducible apply RowAt.le; rotate_left; with_reducible assumption) | (with_reducible apply RowB.le; rotate_left; with_reducible assumption))); done))))))); (all_goals (conv => whnf)))
        (all_goals (try dsimp only [Q.eta, Sn.eta, SlV.eta] at *)); (all_goals (first | exact Side.mk trivial | with_reducible exact Side.mk rfl | exact Side.mk (fun _ _ h => h) | exact Side.mk (Made.le (by assumption)) | refine Side.mk ?_ | refine Don.mk ?_ | skip))
        all_goals first
          | (have h9 : okC ⟨a, b⟩ (List.replicate n.toNat Q1) = false := not_t (by assumption)
             rw [evR_3 hv hw h9]
             refine ⟨⟨none, 0, 0⟩, rfl, Side.mk ?_⟩
             have hfr := (by assumption : Side (Fresh _ 2 Q.cells _ (List.replicate n.toNat Q1) _ _))
             have h8 := hfr.out.beforeNew
             exact Fresh.noRow h8.le h8.keep)
          | (have h9 : okC ⟨a, b⟩ (List.replicate n.toNat Q1) = true := not_f (by assumption)
             rw [evR_4 hv hw h9]
             have hfr := (by assumption : Side (Fresh _ 2 Q.cells _ (List.replicate n.toNat Q1) _ _))
             exact ⟨_, rfl, Side.mk hfr.out.beforeNew⟩))
    · have hw0 : (witQ ⟨a, b⟩ 1000 && withinB n 2 60) = false := by simpa using hw
      (repeat' ((conv => whnf); (first | with_reducible apply And.intro | (with_reducible intro hh; first | (with_reducible have hx := NewRow.self hh; clear hx) | (with_reducible have hrow := Made.row hh; have hle := Made.le hh; have hmade := hh; clear hh) | (with_reducible have hrow := Fresh.rowS hh; have hle := Fresh.leS hh; have hfr := hh; clear hh) | (with_reducible have hx := Ext.self hh; clear hx) | (with_reducible have hx := SlV.self hh; clear hx) | (with_reducible have hx := Value.self hh; clear hx) | with_reducible cases hh | skip) | (with_reducible apply AllEq.mk; intro yy hq) | with_reducible apply trivial | with_reducible apply Exists.intro () | (with_reducible apply ex_side; (first | with_reducible assumption | with_reducible apply fracs1 | with_reducible apply fracs2 | with_reducible apply fracs3 | with_reducible apply spans1 | with_reducible apply spans2 | (with_reducible apply NewRow.keep; with_reducible assumption) | (with_reducible apply RowAt.keep; with_reducible assumption) | assumption | (focus ((repeat (first | with_reducible assumption | (with_reducible apply RowAt.le; rotate_left; with_reducible assumption) | (with_reducible apply RowB.le; rotate_left; with_reducible assumption))); done)))) | (with_reducible apply ex_side (a := (_, _)); (focus (with_reducible apply And.intro <;> (focus ((repeat (first | with_reducible assumption | (with_reducible apply RowAt.le; rotate_left; with_reducible assumption) | (with_reducible apply RowB.le; rotate_left; with_reducible assumption))); done))))))); (all_goals (conv => whnf)))
      (all_goals (try dsimp only [Q.eta, Sn.eta, SlV.eta] at *)); (all_goals (first | exact Side.mk trivial | with_reducible exact Side.mk rfl | exact Side.mk (fun _ _ h => h) | exact Side.mk (Made.le (by assumption)) | refine Side.mk ?_ | refine Don.mk ?_ | skip))
      all_goals first
        | exact hv
        | (exfalso; have h9 := (by assumption : (!okQ ⟨a, b⟩) = true); rw [hv] at h9; cases h9)
        | (rw [evR_2 hv hw0]; exact ⟨⟨none, 0, 0⟩, rfl, Side.mk Fresh.nilRow⟩)
        | (exfalso; have h9 := not_f (by assumption : (!(decide (a > 0) && decide (cmpQ ⟨a, b⟩ ⟨1000, 1⟩ ≤ 0))) = false); have h8 := not_f (by assumption : (!withinB n 2 60) = false); rw [hu] at h9; rw [h9, h8] at hw0; cases hw0)
  · have hv0 : okQ ⟨a, b⟩ = false := by simpa using hv
    (repeat' ((conv => whnf); (first | with_reducible apply And.intro | (with_reducible intro hh; first | (with_reducible have hx := NewRow.self hh; clear hx) | (with_reducible have hrow := Made.row hh; have hle := Made.le hh; have hmade := hh; clear hh) | (with_reducible have hrow := Fresh.rowS hh; have hle := Fresh.leS hh; have hfr := hh; clear hh) | (with_reducible have hx := Ext.self hh; clear hx) | (with_reducible have hx := SlV.self hh; clear hx) | (with_reducible have hx := Value.self hh; clear hx) | with_reducible cases hh | skip) | (with_reducible apply AllEq.mk; intro yy hq) | with_reducible apply trivial | with_reducible apply Exists.intro () | (with_reducible apply ex_side; (first | with_reducible assumption | with_reducible apply fracs1 | with_reducible apply fracs2 | with_reducible apply fracs3 | with_reducible apply spans1 | with_reducible apply spans2 | (with_reducible apply NewRow.keep; with_reducible assumption) | (with_reducible apply RowAt.keep; with_reducible assumption) | assumption | (focus ((repeat (first | with_reducible assumption | (with_reducible apply RowAt.le; rotate_left; with_reducible assumption) | (with_reducible apply RowB.le; rotate_left; with_reducible assumption))); done)))) | (with_reducible apply ex_side (a := (_, _)); (focus (with_reducible apply And.intro <;> (focus ((repeat (first | with_reducible assumption | (with_reducible apply RowAt.le; rotate_left; with_reducible assumption) | (with_reducible apply RowB.le; rotate_left; with_reducible assumption))); done))))))); (all_goals (conv => whnf)))
    (all_goals (try dsimp only [Q.eta, Sn.eta, SlV.eta] at *)); (all_goals (first | exact Side.mk trivial | with_reducible exact Side.mk rfl | exact Side.mk (fun _ _ h => h) | exact Side.mk (Made.le (by assumption)) | refine Side.mk ?_ | refine Don.mk ?_ | skip))
    all_goals first
      | (rw [evR_1 hv0]; exact ⟨⟨none, 0, 0⟩, rfl, Side.mk Fresh.nilRow⟩)
      | (exfalso; have h9 := not_f (by assumption : (!okQ ⟨a, b⟩) = false); rw [hv0] at h9; cases h9)

end Go.Proofs.Ytlfhjmnaommckaa
