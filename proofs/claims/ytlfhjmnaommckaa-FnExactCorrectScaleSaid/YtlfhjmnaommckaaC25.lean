/- Rows that are appended to, and the contracts of both packages' functions that share out a closing; for all lists that lie in memory; no other condition. -/
import Derived.Test.YtlfhjmnaommckaaAb
import Derived.Test.YtlfhjmnaommckaaC1
import Derived.Test.YtlfhjmnaommckaaC2
import Derived.Test.YtlfhjmnaommckaaC3
import Derived.Test.YtlfhjmnaommckaaC4
import Derived.Test.YtlfhjmnaommckaaC5
import Derived.Test.YtlfhjmnaommckaaCL
import Derived.Test.YtlfhjmnaommckaaC6
import Derived.Test.YtlfhjmnaommckaaC7
import Derived.Test.YtlfhjmnaommckaaC8
import Derived.Test.YtlfhjmnaommckaaC9
import Derived.Test.YtlfhjmnaommckaaCO
import Derived.Test.YtlfhjmnaommckaaC12
import Derived.Test.YtlfhjmnaommckaaC24
import Derived.Test.YtlfhjmnaommckaaProg
set_option linter.unusedVariables false
set_option linter.unusedSimpArgs false
namespace Go.Proofs.Ytlfhjmnaommckaa
open Ab

/-! rows that grow -/
theorem new_ne {E : Ext} {cs : List Value} {e : TypeId} (r : NewRow E cs e) {b : Nat} {p : Nat × TypeId} (h : E.own b = some p) : b ≠ r.b := fun e => by
  have := r.fresho
  rw [← e, h] at this
  cases this
theorem OwnRow.new {E : Ext} {e e' : TypeId} {sz : Nat} {s : SlV} {xs cs : List Value} (r : NewRow E cs e') (h : OwnRow E e sz s xs) : OwnRow r.to e sz s xs := by
  obtain ⟨h1, h2, h3, h4⟩ := h
  refine ⟨h1, h2, h3, ?_⟩
  rcases h4 with h4 | ⟨b, hb, ho, hx⟩
  · exact .inl h4
  · have hne := new_ne r ho
    exact .inr ⟨b, hb, by rw [new_own' r hne]; exact ho, fun j => by rw [new_at r (by exact hne)]; exact hx j⟩
theorem own_empty {E : Ext} {e : TypeId} {sz : Nat} (r : NewRow E [] e) : OwnRow r.to e sz ⟨some ⟨r.b, 0, none⟩, 0, 0⟩ [] :=
  ⟨by simp, Nat.le_refl _, Nat.zero_le _, .inr ⟨r.b, rfl, by rw [new_own]; simp, fun j => r.at_ j⟩⟩
theorem cells_new {E : Ext} {e : TypeId} {cs : List Value} {sz n c : Nat} (r : NewRow E cs e) (h : cs.length = n * sz) : RowCells r.to ⟨some ⟨r.b, 0, none⟩, n, c⟩ sz cs :=
  ⟨h, fun h => by simp at h, fun a ha j v hj => by
    simp only [Option.some.injEq] at ha
    subst ha
    rw [addr_add, Nat.zero_add, r.at_]
    exact hj⟩
theorem OwnRow.rowAt {α : Type} {en : α → List Value} {c : Nat} (hc : ∀ x, (en x).length = c) (h0 : 0 < c) {E : Ext} {e : TypeId} {s : SlV} {l : List α} (h : OwnRow E e c s (l.flatMap en)) : RowAt en c s l E := by
  obtain ⟨h1, h2, h3, h4⟩ := h
  have hl : (l.flatMap en).length = l.length * c := by
    clear h1 h4
    induction l with
    | nil => simp
    | cons a r ih => rw [List.flatMap_cons, List.length_append, hc, ih, List.length_cons, Nat.succ_mul, Nat.add_comm]
  have hn : s.n = l.length := Nat.eq_of_mul_eq_mul_right h0 (h1.symm.trans hl)
  refine ⟨hn, Nat.le_trans h2 h3, fun ha => ?_, fun a ha i x hx j v hj => ?_⟩
  · rcases h4 with ⟨_, h5, _⟩ | ⟨b, hb, _⟩
    · exact List.length_eq_zero_iff.1 (by omega)
    · rw [ha] at hb; cases hb
  · rcases h4 with ⟨h5, _⟩ | ⟨b, hb, _, hx'⟩
    · rw [ha] at h5; cases h5
    · rw [ha] at hb
      cases hb
      rw [Go.Deep.add_add, addr_add, Nat.zero_add, hx']
      exact flat_at hc hx hj
theorem own_ints {E : Ext} {e : TypeId} {s : SlV} {l : List Int} (h : OwnRow E e 1 s (l.flatMap i64c)) : IntsL s l E := OwnRow.rowAt (en := i64c) (c := 1) (fun _ => rfl) Nat.one_pos h
theorem flat_push {α : Type} {en : α → List Value} {l : List α} {x : α} : (l ++ [x]).flatMap en = l.flatMap en ++ en x := by simp
theorem Ext.le_trans {E E' E'' : Ext} (h : Ext.le E E') (k : Ext.le E' E'') : Ext.le E E'' := fun a v ha => k a v (h a v ha)
/-! sharing out -/
def shaT (e n : Int) (i : Nat) (x : Int) : Int := x - (((i : Int) + 1) * e / n - (i : Int) * e / n)
def shaL (l : List Int) : List Int := l.mapIdx fun i x => shaT (cloI l) l.length i x
def shaR (l : List Int) : List Int := if secOk l then shaL l else []
def shaC (l : List Int) : Int := if secOk l then 0 else 2
theorem shaL_at {l : List Int} {k : Nat} {q : Int} (h : l[k]? = some q) : (shaL l)[k]? = some (shaT (cloI l) l.length k q) := by simp [shaL, h]
theorem shaL_take {l : List Int} {k : Nat} {q : Int} (h : l[k]? = some q) : (shaL l).take (k + 1) = (shaL l).take k ++ [shaT (cloI l) l.length k q] := by
  rw [List.take_add_one, shaL_at h]
  rfl
theorem shaL_len (l : List Int) : (shaL l).length = l.length := by simp [shaL]
theorem clo_b {l : List Int} (h : secOk l = true) : -1296000 ≤ cloI l ∧ cloI l ≤ 92016000 := by
  have := sum_kb h l.length
  rw [List.take_of_length_le (Nat.le_refl _)] at this
  unfold cloI
  omega
theorem ke_b {k : Nat} {e : Int} (hk : k ≤ 72) (he : -1296000 ≤ e ∧ e ≤ 92016000) : -7000000000 ≤ (k : Int) * e ∧ (k : Int) * e ≤ 7000000000 := by
  have h1 : k * e.natAbs ≤ 72 * 92016000 := Nat.mul_le_mul hk (by omega)
  have h2 : ((k : Int) * e).natAbs = k * e.natAbs := by rw [Int.natAbs_mul]; rfl
  omega
theorem div_b {a n : Int} (hn : 1 ≤ n) (ha : -7000000000 ≤ a ∧ a ≤ 7000000000) : -7000000000 ≤ a / n ∧ a / n ≤ 7000000000 :=
  ⟨Int.le_ediv_of_mul_le (by omega) (by omega), Int.ediv_le_of_le_mul (by omega) (by omega)⟩
structure ShaW (k : Nat) (e n q : Int) : Prop where
  w1 : IntKind.i64.wrap ((k : Int) + 1) = (k : Int) + 1
  w2 : IntKind.i64.wrap (((k : Int) + 1) * e) = ((k : Int) + 1) * e
  w3 : IntKind.i64.wrap ((k : Int) * e) = (k : Int) * e
  w4 : IntKind.i64.wrap (((k : Int) + 1) * e / n - (k : Int) * e / n) = ((k : Int) + 1) * e / n - (k : Int) * e / n
  w5 : IntKind.i64.wrap (q - (((k : Int) + 1) * e / n - (k : Int) * e / n)) = shaT e n k q
  b1 : B4 (((k : Int) + 1) * e)
  b2 : B4 ((k : Int) * e)
theorem sha_w {l : List Int} (h : secOk l = true) {k : Nat} {q : Int} (hk : l[k]? = some q) : ShaW k (cloI l) l.length q := by
  obtain ⟨h1, h2, h3⟩ := secOk_iff h
  have hq := h3 q (List.mem_of_getElem? hk)
  have hlt := (List.getElem?_eq_some_iff.1 hk).1
  have he := clo_b h
  have b1 := ke_b (k := k) (by omega) he
  have b2 := ke_b (k := k + 1) (by omega) he
  rw [show ((k + 1 : Nat) : Int) = (k : Int) + 1 from rfl] at b2
  have hn : 1 ≤ (l.length : Int) := by omega
  have d1 := div_b hn b1
  have d2 := div_b hn b2
  exact ⟨wrap_in (by omega) (by omega), wrap_in (by omega) (by omega), wrap_in (by omega) (by omega), wrap_in (by omega) (by omega), wrap_in (by omega) (by omega), by unfold B4; omega, by unfold B4; omega⟩
abbrev shaSp : Sp := .nf FS (fun x (l : List Int) E => IntsL x.1 l E) (fun _ l y => .tuple #[SlV.v y, .int .i64 (shaC l)]) (fun _ l y E E' => IntsL y (shaR l) E' ∧ Ext.le E E')
theorem shaC_ok {l : List Int} (h : secOk l = true) : shaC l = 0 := if_pos h
theorem shaC_no {l : List Int} (h : secOk l = false) : shaC l = 2 := if_neg (by simp [h])
theorem shaR_ok {l : List Int} (h : secOk l = true) : shaR l = shaL l := if_pos h
theorem shaR_no {l : List Int} (h : secOk l = false) : shaR l = [] := if_neg (by simp [h])
theorem ints_nil {E : Ext} {a : Option Addr} {c : Nat} : IntsL ⟨a, 0, c⟩ [] E := ⟨rfl, Nat.zero_le _, fun _ => rfl, fun a _ i x hx => by simp at hx⟩

set_option maxRecDepth 100000 in
theorem share_ok : Sp.ok Try.prog 46 shaSp := by
  refine Sp.nf_ok (T := ⟨[(37, cloSp), (120, downSp)], []⟩) follows eqok0 ⟨enters Try.func37 rfl rfl, closing_ok, enters Try.func120 rfl rfl, floorDiv_ok, trivial⟩ [] Try.func46 rfl (by kernel_rfl) _ _ _ _ fun x l E hp => ?_
  obtain ⟨⟨sa, n, c⟩, u⟩ := x
  have hp0 := hp
  obtain ⟨hn, hmax, hnone, _⟩ := hp
  dsimp only at hn hmax hnone hp0
  by_cases hO : secOk l = true
  · have hc : cloR l = (cloI l, 0) := by rw [cloR, grd_yes hO]
    have he : (cloR l).1 = cloI l := by rw [hc]
    have he2 : (cloR l).2 = 0 := by rw [hc]
    (repeat' ((conv => whnf); (first | with_reducible apply And.intro | (with_reducible intro hh; first | (with_reducible have hx := NewRow.self hh; clear hx) | (with_reducible have hrow := Made.row hh; have hle := Made.le hh; have hmade := hh; clear hh) | (with_reducible have hrow := Fresh.rowS hh; have hle := Fresh.leS hh; have hfr := hh; clear hh) | (with_reducible have hx := Ext.self hh; clear hx) | (with_reducible have hx := SlV.self hh; clear hx) | (with_reducible have hx := Value.self hh; clear hx) | with_reducible cases hh | skip) | (with_reducible apply AllEq.mk; intro yy hq) | with_reducible apply trivial | with_reducible apply Exists.intro () | (with_reducible apply ex_side; (first | with_reducible assumption | with_reducible apply fracs1 | with_reducible apply fracs2 | with_reducible apply fracs3 | with_reducible apply spans1 | with_reducible apply spans2 | (with_reducible apply NewRow.keep; with_reducible assumption) | (with_reducible apply RowAt.keep; with_reducible assumption) | assumption | (focus ((repeat (first | with_reducible assumption | (with_reducible apply RowAt.le; rotate_left; with_reducible assumption) | (with_reducible apply RowB.le; rotate_left; with_reducible assumption))); done)))) | (with_reducible apply ex_side (a := (_, _)); (focus (with_reducible apply And.intro <;> (focus ((repeat (first | with_reducible assumption | (with_reducible apply RowAt.le; rotate_left; with_reducible assumption) | (with_reducible apply RowB.le; rotate_left; with_reducible assumption))); done))))))); (all_goals (conv => whnf)))
    (all_goals (try dsimp only [Q.eta, Sn.eta, SlV.eta] at *)); (all_goals (first | exact Side.mk trivial | with_reducible exact Side.mk rfl | exact Side.mk (fun _ _ h => h) | exact Side.mk (Made.le (by assumption)) | refine Side.mk ?_ | refine Don.mk ?_ | skip))
    all_goals try (exfalso; rw [he2] at hh; exact absurd hh (by decide))
    refine ⟨fun m s => ∃ (k : Nat) (i : Int) (o : SlV) (E' : Ext) (g0 g1 g2 g3 g5 g8 g9 g10 g11 g12 g13 g14 g15 g16 g17 g18 g19 g20 g21 g25 g26 g27 g28 g29 g30 g31 g32 g33 g34 g35 g36 g37 g38 g39 g40 g41 g42 g43 g44 g45 g46 g47 g48 : AV), m = l.length - k ∧ k ≤ l.length ∧ i = (k : Int) ∧ OwnRow E' 2 1 o (((shaL l).take k).flatMap i64c) ∧ Ext.le E E' ∧ s = ⟨[g0, g1, g2, g3, .v (.int .i64 (cloR l).1), g5, .v (.slice o.a o.n o.c), .v (.int .i64 n), g8, g9, g10, g11, g12, g13, g14, g15, g16, g17, g18, g19, g20, g21, .v (.slice sa n c), .v (.int .i64 n), .v (.int .i64 i), g25, g26, g27, g28, g29, g30, g31, g32, g33, g34, g35, g36, g37, g38, g39, g40, g41, g42, g43, g44, g45, g46, g47, g48], [], E'⟩, ⟨_, 0, _, ⟨_, 0, 0⟩, hh.to, _, _, _, _, _, _, _, _, _, _, _, _, _, _, _, _, _, _, _, _, _, _, _, _, _, _, _, _, _, _, _, _, _, _, _, _, _, _, _, _, _, _, _, rfl, Nat.zero_le _, rfl, own_empty hh, hh.le, rfl⟩, ?_⟩
    rintro m s ⟨k, i, o, E', g0, g1, g2, g3, g5, g8, g9, g10, g11, g12, g13, g14, g15, g16, g17, g18, g19, g20, g21, g25, g26, g27, g28, g29, g30, g31, g32, g33, g34, g35, g36, g37, g38, g39, g40, g41, g42, g43, g44, g45, g46, g47, g48, rfl, hk, rfl, ho, hle, rfl⟩
    rcases hkl : l[k]? with _ | q
    · have hge := List.getElem?_eq_none_iff.1 hkl
      (repeat' ((conv => whnf); (first | with_reducible apply And.intro | (with_reducible intro hh; first | (with_reducible have hx := NewRow.self hh; clear hx) | (with_reducible have hrow := Made.row hh; have hle := Made.le hh; have hmade := hh; clear hh) | (with_reducible have hrow := Fresh.rowS hh; have hle := Fresh.leS hh; have hfr := hh; clear hh) | (with_reducible have hx := Ext.self hh; clear hx) | (with_reducible have hx := SlV.self hh; clear hx) | (with_reducible have hx := Value.self hh; clear hx) | with_reducible cases hh | skip) | (with_reducible apply AllEq.mk; intro yy hq) | with_reducible apply trivial | with_reducible apply Exists.intro () | (with_reducible apply ex_side; (first | with_reducible assumption | with_reducible apply fracs1 | with_reducible apply fracs2 | with_reducible apply fracs3 | with_reducible apply spans1 | with_reducible apply spans2 | (with_reducible apply NewRow.keep; with_reducible assumption) | (with_reducible apply RowAt.keep; with_reducible assumption) | assumption | (focus ((repeat (first | with_reducible assumption | (with_reducible apply RowAt.le; rotate_left; with_reducible assumption) | (with_reducible apply RowB.le; rotate_left; with_reducible assumption))); done)))) | (with_reducible apply ex_side (a := (_, _)); (focus (with_reducible apply And.intro <;> (focus ((repeat (first | with_reducible assumption | (with_reducible apply RowAt.le; rotate_left; with_reducible assumption) | (with_reducible apply RowB.le; rotate_left; with_reducible assumption))); done))))))); (all_goals (conv => whnf)))
      (all_goals (try dsimp only [Q.eta, Sn.eta, SlV.eta] at *)); (all_goals (first | exact Side.mk trivial | with_reducible exact Side.mk rfl | exact Side.mk (fun _ _ h => h) | exact Side.mk (Made.le (by assumption)) | refine Side.mk ?_ | refine Don.mk ?_ | skip))
      all_goals try (exfalso; have := of_decide_eq_true (by assumption : decide ((k : Int) < (n : Int)) = true); omega)
      rw [List.take_of_length_le (by rw [shaL_len]; exact hge)] at ho
      refine ⟨o, by rw [shaC_ok hO]; rfl, by rw [shaR_ok hO]; exact own_ints ho, hle⟩
    · have hlt : k < l.length := (List.getElem?_eq_some_iff.1 hkl).1
      obtain ⟨w1, w2, w3, w4, w5, b1, b2⟩ := sha_w hO hkl
      rw [← hn] at w4 w5
      cases sa with
      | none => rw [hnone rfl] at hkl; cases hkl
      | some a =>
        have h0 := hle _ _ (IntsL.at hp0 (a := a) rfl hkl)
        have hw : IntKind.i64.wrap (q - IntKind.i64.wrap (IntKind.i64.wrap (IntKind.i64.wrap ((k : Int) + 1) * (cloR l).1) / (n : Int) - IntKind.i64.wrap ((k : Int) * (cloR l).1) / (n : Int))) = shaT (cloI l) n k q := by rw [he, w1, w2, w3, w4, w5]
        (repeat' ((conv => whnf); (first | with_reducible apply And.intro | (with_reducible intro hh; first | (with_reducible have hx := NewRow.self hh; clear hx) | (with_reducible have hrow := Made.row hh; have hle := Made.le hh; have hmade := hh; clear hh) | (with_reducible have hrow := Fresh.rowS hh; have hle := Fresh.leS hh; have hfr := hh; clear hh) | (with_reducible have hx := Ext.self hh; clear hx) | (with_reducible have hx := SlV.self hh; clear hx) | (with_reducible have hx := Value.self hh; clear hx) | with_reducible cases hh | skip) | (with_reducible apply AllEq.mk; intro yy hq) | with_reducible apply trivial | with_reducible apply Exists.intro () | (with_reducible apply ex_side; (first | with_reducible assumption | with_reducible apply fracs1 | with_reducible apply fracs2 | with_reducible apply fracs3 | with_reducible apply spans1 | with_reducible apply spans2 | (with_reducible apply NewRow.keep; with_reducible assumption) | (with_reducible apply RowAt.keep; with_reducible assumption) | assumption | (focus ((repeat (first | with_reducible assumption | (with_reducible apply RowAt.le; rotate_left; with_reducible assumption) | (with_reducible apply RowB.le; rotate_left; with_reducible assumption))); done)))) | (with_reducible apply ex_side (a := (_, _)); (focus (with_reducible apply And.intro <;> (focus ((repeat (first | with_reducible assumption | (with_reducible apply RowAt.le; rotate_left; with_reducible assumption) | (with_reducible apply RowB.le; rotate_left; with_reducible assumption))); done))))))); (all_goals (conv => whnf)))
        (all_goals (try dsimp only [Q.eta, Sn.eta, SlV.eta] at *)); (all_goals (first | exact Side.mk trivial | with_reducible exact Side.mk rfl | exact Side.mk (fun _ _ h => h) | exact Side.mk (Made.le (by assumption)) | refine Side.mk ?_ | refine Don.mk ?_ | skip))
        all_goals first | exact ⟨by omega, by omega⟩ | (with_reducible refine And.intro (by omega) ?_; simp only [he, w1, w2]; exact b1) | (with_reducible refine And.intro (by omega) ?_; simp only [he, w3]; exact b2) | (exfalso; have := of_decide_eq_false (by assumption : decide ((k : Int) < (n : Int)) = false); omega) | skip
        have hok : o.n = k := by rw [(own_ints ho).1, List.length_take, shaL_len]; omega
        refine ⟨(_, _), Side.mk ⟨OwnRow.new hh ho, cells_new hh rfl, by simp [cellOk], by have := (secOk_iff hO).2.1; dsimp only; omega⟩, fun r E2 hpost => ?_⟩
        (repeat' ((conv => whnf); (first | with_reducible apply And.intro | (with_reducible intro hh; first | (with_reducible have hx := NewRow.self hh; clear hx) | (with_reducible have hrow := Made.row hh; have hle := Made.le hh; have hmade := hh; clear hh) | (with_reducible have hrow := Fresh.rowS hh; have hle := Fresh.leS hh; have hfr := hh; clear hh) | (with_reducible have hx := Ext.self hh; clear hx) | (with_reducible have hx := SlV.self hh; clear hx) | (with_reducible have hx := Value.self hh; clear hx) | with_reducible cases hh | skip) | (with_reducible apply AllEq.mk; intro yy hq) | with_reducible apply trivial | with_reducible apply Exists.intro () | (with_reducible apply ex_side; (first | with_reducible assumption | with_reducible apply fracs1 | with_reducible apply fracs2 | with_reducible apply fracs3 | with_reducible apply spans1 | with_reducible apply spans2 | (with_reducible apply NewRow.keep; with_reducible assumption) | (with_reducible apply RowAt.keep; with_reducible assumption) | assumption | (focus ((repeat (first | with_reducible assumption | (with_reducible apply RowAt.le; rotate_left; with_reducible assumption) | (with_reducible apply RowB.le; rotate_left; with_reducible assumption))); done)))) | (with_reducible apply ex_side (a := (_, _)); (focus (with_reducible apply And.intro <;> (focus ((repeat (first | with_reducible assumption | (with_reducible apply RowAt.le; rotate_left; with_reducible assumption) | (with_reducible apply RowB.le; rotate_left; with_reducible assumption))); done))))))); (all_goals (conv => whnf)))
        (all_goals (try dsimp only [Q.eta, Sn.eta, SlV.eta] at *)); (all_goals (first | exact Side.mk trivial | with_reducible exact Side.mk rfl | exact Side.mk (fun _ _ h => h) | exact Side.mk (Made.le (by assumption)) | refine Side.mk ?_ | refine Don.mk ?_ | skip))
        refine ⟨_, ?_, k + 1, _, r, E2, _, _, _, _, _, _, _, _, _, _, _, _, _, _, _, _, _, _, _, _, _, _, _, _, _, _, _, _, _, _, _, _, _, _, _, _, _, _, _, _, _, _, _, rfl, hlt, wrap_succ (n := n) (by omega) hmax, ?_, Ext.le_trans hle (Ext.le_trans hh.le hpost.le), rfl⟩
        · omega
        · rw [shaL_take hkl, flat_push, ← hn, ← hw]
          exact hpost.own
  · have hO' : secOk l = false := by simpa using hO
    have hc : cloR l = (0, 2) := by rw [cloR, grd_no hO']
    have he2 : (cloR l).2 = 2 := by rw [hc]
    (repeat' ((conv => whnf); (first | with_reducible apply And.intro | (with_reducible intro hh; first | (with_reducible have hx := NewRow.self hh; clear hx) | (with_reducible have hrow := Made.row hh; have hle := Made.le hh; have hmade := hh; clear hh) | (with_reducible have hrow := Fresh.rowS hh; have hle := Fresh.leS hh; have hfr := hh; clear hh) | (with_reducible have hx := Ext.self hh; clear hx) | (with_reducible have hx := SlV.self hh; clear hx) | (with_reducible have hx := Value.self hh; clear hx) | with_reducible cases hh | skip) | (with_reducible apply AllEq.mk; intro yy hq) | with_reducible apply trivial | with_reducible apply Exists.intro () | (with_reducible apply ex_side; (first | with_reducible assumption | with_reducible apply fracs1 | with_reducible apply fracs2 | with_reducible apply fracs3 | with_reducible apply spans1 | with_reducible apply spans2 | (with_reducible apply NewRow.keep; with_reducible assumption) | (with_reducible apply RowAt.keep; with_reducible assumption) | assumption | (focus ((repeat (first | with_reducible assumption | (with_reducible apply RowAt.le; rotate_left; with_reducible assumption) | (with_reducible apply RowB.le; rotate_left; with_reducible assumption))); done)))) | (with_reducible apply ex_side (a := (_, _)); (focus (with_reducible apply And.intro <;> (focus ((repeat (first | with_reducible assumption | (with_reducible apply RowAt.le; rotate_left; with_reducible assumption) | (with_reducible apply RowB.le; rotate_left; with_reducible assumption))); done))))))); (all_goals (conv => whnf)))
    (all_goals (try dsimp only [Q.eta, Sn.eta, SlV.eta] at *)); (all_goals (first | exact Side.mk trivial | with_reducible exact Side.mk rfl | exact Side.mk (fun _ _ h => h) | exact Side.mk (Made.le (by assumption)) | refine Side.mk ?_ | refine Don.mk ?_ | skip))
    all_goals try (exfalso; have h9 := (by assumption : ((cloR l).2 != 0) = false); rw [he2] at h9; exact absurd h9 (by decide))
    exact ⟨⟨none, 0, 0⟩, by rw [shaC_no hO', he2]; rfl, by rw [shaR_no hO']; exact ints_nil, fun _ _ h => h⟩
abbrev sshdSp : Sp := .nf FS (fun x (l : List Int) E => IntsL x.1 l E ∧ secOk l = true) (fun _ _ y => SlV.v y) (fun _ l y E E' => IntsL y (shaL l) E' ∧ Ext.le E E')

set_option maxHeartbeats 2000000 in
set_option maxRecDepth 100000 in
theorem sshd_ok : Sp.ok Try.prog 121 sshdSp := by
  refine Sp.nf_ok (T := ⟨[(111, scloSp), (170, downSp)], []⟩) follows eqok0 ⟨enters Try.func111 rfl rfl, sclo_ok, enters Try.func170 rfl rfl, down_ok, trivial⟩ [(7, .take 0 (.take 1 (.take 2 (.take 3 (.take 4 (.take 5 (.take 6 (.take 7 (.take 8 (.take 9 (.take 11 (.take 12 (.take 13 (.take 14 (.alt 10 (.alt 15 (.take 16 (.take 17 (.alt 18 (.alt 19 (.take 20 (.done)) (.last)) (.last)))) (.last)) (.last))))))))))))))))] Try.func121 rfl (by kernel_rfl) _ _ _ _ fun x l E hp => ?_
  obtain ⟨⟨sa, n, c⟩, u⟩ := x
  obtain ⟨hp, hO⟩ := hp
  have hR : IntsL ⟨sa, n, c⟩ l E ∧ secOk l = true := ⟨hp, hO⟩
  have hp0 := hp
  obtain ⟨hn, hmax, hnone, _⟩ := hp
  dsimp only at hn hmax hnone hp0
  (repeat' ((conv => whnf); (first | with_reducible apply And.intro | (with_reducible intro hh; first | (with_reducible have hx := NewRow.self hh; clear hx) | (with_reducible have hrow := Made.row hh; have hle := Made.le hh; have hmade := hh; clear hh) | (with_reducible have hrow := Fresh.rowS hh; have hle := Fresh.leS hh; have hfr := hh; clear hh) | (with_reducible have hx := Ext.self hh; clear hx) | (with_reducible have hx := SlV.self hh; clear hx) | (with_reducible have hx := Value.self hh; clear hx) | with_reducible cases hh | skip) | (with_reducible apply AllEq.mk; intro yy hq) | with_reducible apply trivial | with_reducible apply Exists.intro () | (with_reducible apply ex_side; (first | with_reducible assumption | with_reducible apply fracs1 | with_reducible apply fracs2 | with_reducible apply fracs3 | with_reducible apply spans1 | with_reducible apply spans2 | (with_reducible apply NewRow.keep; with_reducible assumption) | (with_reducible apply RowAt.keep; with_reducible assumption) | assumption | (focus ((repeat (first | with_reducible assumption | (with_reducible apply RowAt.le; rotate_left; with_reducible assumption) | (with_reducible apply RowB.le; rotate_left; with_reducible assumption))); done)))) | (with_reducible apply ex_side (a := (_, _)); (focus (with_reducible apply And.intro <;> (focus ((repeat (first | with_reducible assumption | (with_reducible apply RowAt.le; rotate_left; with_reducible assumption) | (with_reducible apply RowB.le; rotate_left; with_reducible assumption))); done))))))); (all_goals (conv => whnf)))
  (all_goals (try dsimp only [Q.eta, Sn.eta, SlV.eta] at *)); (all_goals (first | exact Side.mk trivial | with_reducible exact Side.mk rfl | exact Side.mk (fun _ _ h => h) | exact Side.mk (Made.le (by assumption)) | refine Side.mk ?_ | refine Don.mk ?_ | skip))
  refine ⟨fun m s => ∃ (k : Nat) (i : Int) (o : SlV) (E' : Ext) (g1 g2 g7 g8 g9 g10 g11 g12 g13 g14 g15 g16 g17 g18 g19 g20 g21 g22 g23 g24 g25 g26 g27 g28 g29 g30 g31 g32 g33 g34 g35 g36 g37 : AV), m = l.length - k ∧ k ≤ l.length ∧ i = (k : Int) ∧ OwnRow E' 2 1 o (((shaL l).take k).flatMap i64c) ∧ Ext.le E E' ∧ s = ⟨[.v (.slice sa n c), g1, g2, .v (.int .i64 n), .v (.int .i64 (cloI l)), .v (.slice o.a o.n o.c), .v (.int .i64 i), g7, g8, g9, g10, g11, g12, g13, g14, g15, g16, g17, g18, g19, g20, g21, g22, g23, g24, g25, g26, g27, g28, g29, g30, g31, g32, g33, g34, g35, g36, g37], [], E'⟩, ⟨_, 0, _, ⟨_, 0, 0⟩, hh.to, _, _, _, _, _, _, _, _, _, _, _, _, _, _, _, _, _, _, _, _, _, _, _, _, _, _, _, _, _, _, _, _, _, rfl, Nat.zero_le _, rfl, own_empty hh, hh.le, rfl⟩, ?_⟩
  rintro m s ⟨k, i, o, E', g1, g2, g7, g8, g9, g10, g11, g12, g13, g14, g15, g16, g17, g18, g19, g20, g21, g22, g23, g24, g25, g26, g27, g28, g29, g30, g31, g32, g33, g34, g35, g36, g37, rfl, hk, rfl, ho, hle, rfl⟩
  rcases hkl : l[k]? with _ | q
  · have hge := List.getElem?_eq_none_iff.1 hkl
    (repeat' ((conv => whnf); (first | with_reducible apply And.intro | (with_reducible intro hh; first | (with_reducible have hx := NewRow.self hh; clear hx) | (with_reducible have hrow := Made.row hh; have hle := Made.le hh; have hmade := hh; clear hh) | (with_reducible have hrow := Fresh.rowS hh; have hle := Fresh.leS hh; have hfr := hh; clear hh) | (with_reducible have hx := Ext.self hh; clear hx) | (with_reducible have hx := SlV.self hh; clear hx) | (with_reducible have hx := Value.self hh; clear hx) | with_reducible cases hh | skip) | (with_reducible apply AllEq.mk; intro yy hq) | with_reducible apply trivial | with_reducible apply Exists.intro () | (with_reducible apply ex_side; (first | with_reducible assumption | with_reducible apply fracs1 | with_reducible apply fracs2 | with_reducible apply fracs3 | with_reducible apply spans1 | with_reducible apply spans2 | (with_reducible apply NewRow.keep; with_reducible assumption) | (with_reducible apply RowAt.keep; with_reducible assumption) | assumption | (focus ((repeat (first | with_reducible assumption | (with_reducible apply RowAt.le; rotate_left; with_reducible assumption) | (with_reducible apply RowB.le; rotate_left; with_reducible assumption))); done)))) | (with_reducible apply ex_side (a := (_, _)); (focus (with_reducible apply And.intro <;> (focus ((repeat (first | with_reducible assumption | (with_reducible apply RowAt.le; rotate_left; with_reducible assumption) | (with_reducible apply RowB.le; rotate_left; with_reducible assumption))); done))))))); (all_goals (conv => whnf)))
    (all_goals (try dsimp only [Q.eta, Sn.eta, SlV.eta] at *)); (all_goals (first | exact Side.mk trivial | with_reducible exact Side.mk rfl | exact Side.mk (fun _ _ h => h) | exact Side.mk (Made.le (by assumption)) | refine Side.mk ?_ | refine Don.mk ?_ | skip))
    all_goals try (exfalso; have := of_decide_eq_true (by assumption : decide ((k : Int) < (n : Int)) = true); omega)
    rw [List.take_of_length_le (by rw [shaL_len]; exact hge)] at ho
    exact ⟨o, rfl, own_ints ho, hle⟩
  · have hlt : k < l.length := (List.getElem?_eq_some_iff.1 hkl).1
    obtain ⟨w1, w2, w3, w4, w5, b1, b2⟩ := sha_w hO hkl
    rw [← hn] at w4 w5
    cases sa with
    | none => rw [hnone rfl] at hkl; cases hkl
    | some a =>
      have h0 := hle _ _ (IntsL.at hp0 (a := a) rfl hkl)
      have hw : IntKind.i64.wrap (q - IntKind.i64.wrap (IntKind.i64.wrap (IntKind.i64.wrap ((k : Int) + 1) * cloI l) / (n : Int) - IntKind.i64.wrap ((k : Int) * cloI l) / (n : Int))) = shaT (cloI l) n k q := by rw [w1, w2, w3, w4, w5]
      (repeat' ((conv => whnf); (first | with_reducible apply And.intro | (with_reducible intro hh; first | (with_reducible have hx := NewRow.self hh; clear hx) | (with_reducible have hrow := Made.row hh; have hle := Made.le hh; have hmade := hh; clear hh) | (with_reducible have hrow := Fresh.rowS hh; have hle := Fresh.leS hh; have hfr := hh; clear hh) | (with_reducible have hx := Ext.self hh; clear hx) | (with_reducible have hx := SlV.self hh; clear hx) | (with_reducible have hx := Value.self hh; clear hx) | with_reducible cases hh | skip) | (with_reducible apply AllEq.mk; intro yy hq) | with_reducible apply trivial | with_reducible apply Exists.intro () | (with_reducible apply ex_side; (first | with_reducible assumption | with_reducible apply fracs1 | with_reducible apply fracs2 | with_reducible apply fracs3 | with_reducible apply spans1 | with_reducible apply spans2 | (with_reducible apply NewRow.keep; with_reducible assumption) | (with_reducible apply RowAt.keep; with_reducible assumption) | assumption | (focus ((repeat (first | with_reducible assumption | (with_reducible apply RowAt.le; rotate_left; with_reducible assumption) | (with_reducible apply RowB.le; rotate_left; with_reducible assumption))); done)))) | (with_reducible apply ex_side (a := (_, _)); (focus (with_reducible apply And.intro <;> (focus ((repeat (first | with_reducible assumption | (with_reducible apply RowAt.le; rotate_left; with_reducible assumption) | (with_reducible apply RowB.le; rotate_left; with_reducible assumption))); done))))))); (all_goals (conv => whnf)))
      (all_goals (try dsimp only [Q.eta, Sn.eta, SlV.eta] at *)); (all_goals (first | exact Side.mk trivial | with_reducible exact Side.mk rfl | exact Side.mk (fun _ _ h => h) | exact Side.mk (Made.le (by assumption)) | refine Side.mk ?_ | refine Don.mk ?_ | skip))
      all_goals first | exact ⟨by omega, by omega⟩ | (with_reducible refine And.intro (by omega) ?_; simp only [w1, w2]; exact b1) | (with_reducible refine And.intro (by omega) ?_; simp only [w3]; exact b2) | (exfalso; have := of_decide_eq_false (by assumption : decide ((k : Int) < (n : Int)) = false); omega) | skip
      have hok : o.n = k := by rw [(own_ints ho).1, List.length_take, shaL_len]; omega
      refine ⟨(_, _), Side.mk ⟨OwnRow.new hh ho, cells_new hh rfl, by simp [cellOk], by have := (secOk_iff hO).2.1; dsimp only; omega⟩, fun r E2 hpost => ?_⟩
      (repeat' ((conv => whnf); (first | with_reducible apply And.intro | (with_reducible intro hh; first | (with_reducible have hx := NewRow.self hh; clear hx) | (with_reducible have hrow := Made.row hh; have hle := Made.le hh; have hmade := hh; clear hh) | (with_reducible have hrow := Fresh.rowS hh; have hle := Fresh.leS hh; have hfr := hh; clear hh) | (with_reducible have hx := Ext.self hh; clear hx) | (with_reducible have hx := SlV.self hh; clear hx) | (with_reducible have hx := Value.self hh; clear hx) | with_reducible cases hh | skip) | (with_reducible apply AllEq.mk; intro yy hq) | with_reducible apply trivial | with_reducible apply Exists.intro () | (with_reducible apply ex_side; (first | with_reducible assumption | with_reducible apply fracs1 | with_reducible apply fracs2 | with_reducible apply fracs3 | with_reducible apply spans1 | with_reducible apply spans2 | (with_reducible apply NewRow.keep; with_reducible assumption) | (with_reducible apply RowAt.keep; with_reducible assumption) | assumption | (focus ((repeat (first | with_reducible assumption | (with_reducible apply RowAt.le; rotate_left; with_reducible assumption) | (with_reducible apply RowB.le; rotate_left; with_reducible assumption))); done)))) | (with_reducible apply ex_side (a := (_, _)); (focus (with_reducible apply And.intro <;> (focus ((repeat (first | with_reducible assumption | (with_reducible apply RowAt.le; rotate_left; with_reducible assumption) | (with_reducible apply RowB.le; rotate_left; with_reducible assumption))); done))))))); (all_goals (conv => whnf)))
      (all_goals (try dsimp only [Q.eta, Sn.eta, SlV.eta] at *)); (all_goals (first | exact Side.mk trivial | with_reducible exact Side.mk rfl | exact Side.mk (fun _ _ h => h) | exact Side.mk (Made.le (by assumption)) | refine Side.mk ?_ | refine Don.mk ?_ | skip))
      refine ⟨_, ?_, k + 1, _, r, E2, _, _, _, _, _, _, _, _, _, _, _, _, _, _, _, _, _, _, _, _, _, _, _, _, _, _, _, _, _, _, _, _, _, rfl, hlt, wrap_succ (n := n) (by omega) hmax, ?_, Ext.le_trans hle (Ext.le_trans hh.le hpost.le), rfl⟩
      · omega
      · rw [shaL_take hkl, flat_push, ← hn, ← hw]
        exact hpost.own
set_option maxRecDepth 100000 in
theorem sshare_ok : Sp.ok Try.prog 47 shaSp := by
  refine Sp.nf_ok (T := ⟨[(110, secSp), (121, sshdSp)], []⟩) follows eqok0 ⟨enters Try.func110 rfl rfl, ssec_ok, enters Try.func121 rfl rfl, sshd_ok, trivial⟩ [] Try.func47 rfl (by kernel_rfl) _ _ _ _ fun x l E hp => ?_
  obtain ⟨⟨sa, n, c⟩, u⟩ := x
  by_cases hO : secOk l = true
  · have hR : IntsL ⟨sa, n, c⟩ l E ∧ secOk l = true := ⟨hp, hO⟩
    have hc : (if secOk l then (0 : Int) else 2) = 0 := if_pos hO
    (repeat' ((conv => whnf); (first | with_reducible apply And.intro | (with_reducible intro hh; first | (with_reducible have hx := NewRow.self hh; clear hx) | (with_reducible have hrow := Made.row hh; have hle := Made.le hh; have hmade := hh; clear hh) | (with_reducible have hrow := Fresh.rowS hh; have hle := Fresh.leS hh; have hfr := hh; clear hh) | (with_reducible have hx := Ext.self hh; clear hx) | (with_reducible have hx := SlV.self hh; clear hx) | (with_reducible have hx := Value.self hh; clear hx) | with_reducible cases hh | skip) | (with_reducible apply AllEq.mk; intro yy hq) | with_reducible apply trivial | with_reducible apply Exists.intro () | (with_reducible apply ex_side; (first | with_reducible assumption | with_reducible apply fracs1 | with_reducible apply fracs2 | with_reducible apply fracs3 | with_reducible apply spans1 | with_reducible apply spans2 | (with_reducible apply NewRow.keep; with_reducible assumption) | (with_reducible apply RowAt.keep; with_reducible assumption) | assumption | (focus ((repeat (first | with_reducible assumption | (with_reducible apply RowAt.le; rotate_left; with_reducible assumption) | (with_reducible apply RowB.le; rotate_left; with_reducible assumption))); done)))) | (with_reducible apply ex_side (a := (_, _)); (focus (with_reducible apply And.intro <;> (focus ((repeat (first | with_reducible assumption | (with_reducible apply RowAt.le; rotate_left; with_reducible assumption) | (with_reducible apply RowB.le; rotate_left; with_reducible assumption))); done))))))); (all_goals (conv => whnf)))
    (all_goals (try dsimp only [Q.eta, Sn.eta, SlV.eta] at *)); (all_goals (first | exact Side.mk trivial | with_reducible exact Side.mk rfl | exact Side.mk (fun _ _ h => h) | exact Side.mk (Made.le (by assumption)) | refine Side.mk ?_ | refine Don.mk ?_ | skip))
    all_goals try simp only [hc] at *
    all_goals first | (exfalso; exact absurd (by assumption : ((0 : Int) != 0) = true) (by decide)) | skip
    refine ⟨_, ?_, by rw [shaR_ok hO]; assumption, by assumption⟩
    rw [shaC_ok hO]
    rfl
  · have hO' : secOk l = false := by simpa using hO
    have hc : (if secOk l then (0 : Int) else 2) = 2 := if_neg hO
    (repeat' ((conv => whnf); (first | with_reducible apply And.intro | (with_reducible intro hh; first | (with_reducible have hx := NewRow.self hh; clear hx) | (with_reducible have hrow := Made.row hh; have hle := Made.le hh; have hmade := hh; clear hh) | (with_reducible have hrow := Fresh.rowS hh; have hle := Fresh.leS hh; have hfr := hh; clear hh) | (with_reducible have hx := Ext.self hh; clear hx) | (with_reducible have hx := SlV.self hh; clear hx) | (with_reducible have hx := Value.self hh; clear hx) | with_reducible cases hh | skip) | (with_reducible apply AllEq.mk; intro yy hq) | with_reducible apply trivial | with_reducible apply Exists.intro () | (with_reducible apply ex_side; (first | with_reducible assumption | with_reducible apply fracs1 | with_reducible apply fracs2 | with_reducible apply fracs3 | with_reducible apply spans1 | with_reducible apply spans2 | (with_reducible apply NewRow.keep; with_reducible assumption) | (with_reducible apply RowAt.keep; with_reducible assumption) | assumption | (focus ((repeat (first | with_reducible assumption | (with_reducible apply RowAt.le; rotate_left; with_reducible assumption) | (with_reducible apply RowB.le; rotate_left; with_reducible assumption))); done)))) | (with_reducible apply ex_side (a := (_, _)); (focus (with_reducible apply And.intro <;> (focus ((repeat (first | with_reducible assumption | (with_reducible apply RowAt.le; rotate_left; with_reducible assumption) | (with_reducible apply RowB.le; rotate_left; with_reducible assumption))); done))))))); (all_goals (conv => whnf)))
    (all_goals (try dsimp only [Q.eta, Sn.eta, SlV.eta] at *)); (all_goals (first | exact Side.mk trivial | with_reducible exact Side.mk rfl | exact Side.mk (fun _ _ h => h) | exact Side.mk (Made.le (by assumption)) | refine Side.mk ?_ | refine Don.mk ?_ | skip))
    all_goals try simp only [hc] at *
    all_goals first | (exfalso; exact absurd (by assumption : ((2 : Int) != 0) = false) (by decide)) | skip
    exact ⟨⟨_, 0, 0⟩, by rw [shaC_no hO']; rfl, by rw [shaR_no hO']; exact ints_nil, NewRow.le _⟩
/-! the plain law -/
theorem shaL_sum {l : List Int} : ∀ (k : Nat), k ≤ l.length → ((shaL l).take k).sum = (l.take k).sum - (k : Int) * cloI l / l.length
  | 0, _ => by simp
  | k + 1, h => by
    have hk : l[k]? = some (l[k]'(by omega)) := List.getElem?_eq_getElem (by omega)
    rw [sum_take (shaL_at hk), sum_take hk, shaL_sum k (by omega)]
    unfold shaT
    rw [show ((k + 1 : Nat) : Int) = (k : Int) + 1 from rfl]
    omega
theorem shaL_all {l : List Int} (h : secOk l = true) : (shaL l).sum = 1296000 := by
  have h1 := shaL_sum (l := l) l.length (Nat.le_refl _)
  rw [List.take_of_length_le (by rw [shaL_len]; exact Nat.le_refl _), List.take_of_length_le (Nat.le_refl _)] at h1
  have h2 := (secOk_iff h).1
  rw [h1, Int.mul_ediv_cancel_left _ (by omega)]
  unfold cloI
  omega
theorem sha_wrap {l : List Int} (h : secOk l = true) {k : Nat} {q : Int} (hk : (shaL l)[k]? = some q) : IntKind.i64.wrap (((shaL l).take k).sum + q) = ((shaL l).take (k + 1)).sum := by
  have hlt : k < l.length := by rw [← shaL_len]; exact (List.getElem?_eq_some_iff.1 hk).1
  obtain ⟨h1, h2, h3⟩ := secOk_iff h
  rw [← sum_take hk, shaL_sum (k + 1) hlt]
  have b1 := ke_b (k := k + 1) (by omega) (clo_b h)
  have d1 := div_b (n := l.length) (by omega) b1
  have b2 := sum_kb h (k + 1)
  exact wrap_in (by omega) (by omega)

end Go.Proofs.Ytlfhjmnaommckaa
