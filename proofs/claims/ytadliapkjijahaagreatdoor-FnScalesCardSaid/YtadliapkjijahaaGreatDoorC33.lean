/- Contracts of the functions that warm a scale, for all scales that lie in memory; no other condition. -/
import Derived.Test.YtadliapkjijahaaGreatDoorAb
import Derived.Test.YtadliapkjijahaaGreatDoorC1
import Derived.Test.YtadliapkjijahaaGreatDoorC2
import Derived.Test.YtadliapkjijahaaGreatDoorC3
import Derived.Test.YtadliapkjijahaaGreatDoorC4
import Derived.Test.YtadliapkjijahaaGreatDoorC5
import Derived.Test.YtadliapkjijahaaGreatDoorCL
import Derived.Test.YtadliapkjijahaaGreatDoorC6
import Derived.Test.YtadliapkjijahaaGreatDoorC7
import Derived.Test.YtadliapkjijahaaGreatDoorC8
import Derived.Test.YtadliapkjijahaaGreatDoorC9
import Derived.Test.YtadliapkjijahaaGreatDoorCO
import Derived.Test.YtadliapkjijahaaGreatDoorC12
import Derived.Test.YtadliapkjijahaaGreatDoorC13
import Derived.Test.YtadliapkjijahaaGreatDoorC14
import Derived.Test.YtadliapkjijahaaGreatDoorC15
import Derived.Test.YtadliapkjijahaaGreatDoorC16
import Derived.Test.YtadliapkjijahaaGreatDoorC17
import Derived.Test.YtadliapkjijahaaGreatDoorC25
import Derived.Test.YtadliapkjijahaaGreatDoorC30
import Derived.Test.YtadliapkjijahaaGreatDoorC31
import Derived.Test.YtadliapkjijahaaGreatDoorCN
import Derived.Test.YtadliapkjijahaaGreatDoorProg
set_option linter.unusedVariables false
set_option linter.unusedSimpArgs false
namespace Go.Proofs.YtadliapkjijahaaGreatDoor
open Ab

abbrev O1 : Q := ⟨1, 1⟩
abbrev CW1 : ArgL (Scl × Q × Unit) := .cons sclA (.cons .frac .nil)
def bigB (d : Q) : Bool := decide (cmpQ (sizQ d) ⟨1, 10⟩ > 0)
theorem bigB_ten {d : Q} : bigB d = decide (10 * (d.p.natAbs : Int) > d.q) := by
  unfold bigB cmpQ sizQ
  dsimp only
  congr 1
  apply propext
  split
  · omega
  · split <;> omega
def mulsO (l : List Q) (t : Q) : List (Option Q) := l.map fun e => mulO e t
theorem mulsO_at {l : List Q} {t e : Q} {k : Nat} (h : l[k]? = some e) : (mulsO l t)[k]? = some (mulO e t) := by unfold mulsO; rw [List.getElem?_map, h]; rfl
theorem mulsO_len (l : List Q) (t : Q) : (mulsO l t).length = l.length := by unfold mulsO; simp
def fitO (v : Q) (o : Option (List Q)) : Option (Q × List Q) := o.bind fun g => if okC v g then some (v, g) else none
def warO (u : Q) (l : List Q) (d : Q) : Option (Q × List Q) := (addO O1 d).bind fun t => (mulO u t).bind fun v => fitO v (accO [] (mulsO l t))
def outC (o : Option (Q × List Q)) (c : Int) : (Q × List Q) × Int := match o with
  | some p => (p, 0)
  | none => ((Q0, []), c)
def warR (u : Q) (l : List Q) (d : Q) : (Q × List Q) × Int := if okC u l && okQ d then (if bigB d then ((Q0, []), 2) else outC (warO u l d) 3) else ((Q0, []), 1)
theorem warR_1 {u d : Q} {l : List Q} (h : (okC u l && okQ d) = false) : warR u l d = ((Q0, []), 1) := by unfold warR; rw [if_neg (by simp [h])]
theorem warR_2 {u d : Q} {l : List Q} (h : (okC u l && okQ d) = true) (h2 : bigB d = true) : warR u l d = ((Q0, []), 2) := by unfold warR; rw [if_pos h, if_pos h2]
theorem warR_3 {u d : Q} {l : List Q} (h : (okC u l && okQ d) = true) (h2 : bigB d = false) (h3 : warO u l d = none) : warR u l d = ((Q0, []), 3) := by unfold warR; rw [if_pos h, if_neg (by simp [h2]), h3]; rfl
theorem warR_4 {u d v : Q} {l g : List Q} (h : (okC u l && okQ d) = true) (h2 : bigB d = false) (h3 : warO u l d = some (v, g)) : warR u l d = ((v, g), 0) := by unfold warR; rw [if_pos h, if_neg (by simp [h2]), h3]; rfl
theorem warO_1 {u d : Q} {l : List Q} (h : addO O1 d = none) : warO u l d = none := by unfold warO; rw [h]; rfl
theorem warO_2 {u d t : Q} {l : List Q} (h : addO O1 d = some t) (h2 : mulO u t = none) : warO u l d = none := by unfold warO; rw [h, Option.bind_some, h2]; rfl
theorem warO_3 {u d t v : Q} {l : List Q} (h : addO O1 d = some t) (h2 : mulO u t = some v) : warO u l d = fitO v (accO [] (mulsO l t)) := by unfold warO; rw [h, Option.bind_some, h2]; rfl
theorem fitO_no {v : Q} {g : List Q} (h : okC v g = false) : fitO v (some g) = none := by unfold fitO; rw [Option.bind_some, if_neg (by simp [h])]
theorem fitO_yes {v : Q} {g : List Q} (h : okC v g = true) : fitO v (some g) = some (v, g) := by unfold fitO; rw [Option.bind_some, if_pos h]
theorem out_some {o : Option Q} {y : Q × Int} (h : y = outO o) (h2 : (y.2 != 0) = false) : ∃ t, o = some t ∧ y = (t, 0) := by
  cases o with
  | none => subst h; cases h2
  | some t => exact ⟨t, rfl, h⟩
theorem out_no {o : Option Q} {y : Q × Int} (h : y = outO o) (h2 : (y.2 != 0) = true) : o = none ∧ y = (⟨0, 0⟩, 3) := by
  cases o with
  | none => exact ⟨rfl, h⟩
  | some t => subst h; cases h2
theorem accO_step {a : List Q} {os : List (Option Q)} {k : Nat} {x : Q} (h : os[k]? = some (some x)) : accO a (os.drop k) = accO (a ++ [x]) (os.drop (k + 1)) := by rw [drop_at h, accO]; rfl
theorem accO_stop {a : List Q} {os : List (Option Q)} {k : Nat} (h : os[k]? = some none) : accO a (os.drop k) = none := by rw [drop_at h, accO]; rfl
theorem accO_end {a : List Q} {os : List (Option Q)} {k : Nat} (h : os.length ≤ k) : accO a (os.drop k) = some a := by rw [List.drop_eq_nil_of_le h, accO]
abbrev warSp : Sp := .nf CW1 (fun x (l : List Q) E => FracsAt x.1.errs l E) (fun x l (y : SlV) => RSc (warR x.1.unit l x.2.1).1.1 y (warR x.1.unit l x.2.1).2) (fun x l y E E' => Side (Fresh 25 2 Q.cells y (warR x.1.unit l x.2.1).1.2 E E'))

set_option maxHeartbeats 4000000 in
set_option maxRecDepth 100000 in
theorem swar_ok : Sp.ok Tryz.prog 36 warSp := by
  refine Sp.nf_ok (T := ⟨[(69, scaleOkSp), (83, validSp), (84, absSp), (85, wholeSp), (60, oaddqSp), (62, omulqSp)], []⟩) follows eqok0 ⟨enters Tryz.func69 rfl rfl, scaleOk_ok, enters Tryz.func83 rfl rfl, spok_ok, enters Tryz.func84 rfl rfl, abs_ok, enters Tryz.func85 rfl rfl, whole_ok, enters Tryz.func60 rfl rfl, oaddq_ok, enters Tryz.func62 rfl rfl, omulq_ok, trivial⟩ [(3, .take 0 (.take 1 (.take 4 (.take 5 (.alt 2 (.take 3 (.take 6 (.done))) (.last)))))), (5, .take 1 (.alt 0 (.alt 2 (.take 3 (.take 4 (.take 5 (.alt 6 (.alt 7 (.take 8 (.done)) (.last)) (.last))))) (.alt 6 (.alt 2 (.take 3 (.take 4 (.take 5 (.alt 7 (.take 8 (.done)) (.last))))) (.last)) (.last))) (.alt 6 (.alt 0 (.alt 2 (.take 3 (.take 4 (.take 5 (.alt 7 (.take 8 (.done)) (.last))))) (.last)) (.last)) (.last)))), (15, .take 0 (.take 1 (.take 2 (.take 3 (.take 4 (.take 5 (.alt 6 (.take 7 (.take 8 (.take 9 (.alt 10 (.alt 11 (.take 12 (.done)) (.last)) (.last))))) (.alt 10 (.alt 6 (.take 7 (.take 8 (.take 9 (.alt 11 (.take 12 (.done)) (.last))))) (.last)) (.last)))))))))] Tryz.func36 rfl (by kernel_rfl) _ _ _ _ fun x l E hp => ?_
  obtain ⟨⟨⟨a, b⟩, ⟨sa, n, c⟩⟩, ⟨d, e⟩, u⟩ := x
  dsimp only at hp
  have hp0 := hp
  have hat := @FracsAt.at _ _ _ hp
  obtain ⟨hn, hmax, hnone, _⟩ := hp
  dsimp only at hn hmax hnone hat
  by_cases hv : (okC ⟨a, b⟩ l && okQ ⟨d, e⟩) = true
  · have hv' := hv
    rw [Bool.and_eq_true] at hv'
    have hd := hv'.2
    have hdq := okQ_iff.1 hd
    have hO1 : okQ O1 = true := okQ_whole (n := 1) (by decide)
    dsimp only at hdq
    have hC := okC_iff hv'.1
    have hw : IntKind.i64.wrap (10 * (d.natAbs : Int)) = 10 * (d.natAbs : Int) := wrap_in (by omega) (by omega)
    have hb : bigB ⟨d, e⟩ = decide (IntKind.i64.wrap (10 * (d.natAbs : Int)) > e) := by rw [hw]; exact bigB_ten
    (repeat' ((conv => whnf); (first | with_reducible apply And.intro | (with_reducible intro hh; first | (with_reducible have hx := NewRow.self hh; clear hx) | (with_reducible have hrow := Made.row hh; have hle := Made.le hh; have hmade := hh; clear hh) | (with_reducible have hrow := Fresh.rowS hh; have hle := Fresh.leS hh; have hfr := hh; clear hh) | (with_reducible have hx := Ext.self hh; clear hx) | (with_reducible have hx := SlV.self hh; clear hx) | (with_reducible have hx := Value.self hh; clear hx) | with_reducible cases hh | skip) | (with_reducible apply AllEq.mk; intro yy hq) | with_reducible apply trivial | with_reducible apply Exists.intro () | (with_reducible apply ex_side; (first | with_reducible assumption | with_reducible apply fracs1 | with_reducible apply fracs2 | with_reducible apply fracs3 | with_reducible apply spans1 | with_reducible apply spans2 | (with_reducible apply NewRow.keep; with_reducible assumption) | (with_reducible apply RowAt.keep; with_reducible assumption) | assumption | (focus ((repeat (first | with_reducible assumption | (with_reducible apply RowAt.le; rotate_left; with_reducible assumption) | (with_reducible apply RowB.le; rotate_left; with_reducible assumption))); done)))) | (with_reducible apply ex_side (a := (_, _)); (focus (with_reducible apply And.intro <;> (focus ((repeat (first | with_reducible assumption | (with_reducible apply RowAt.le; rotate_left; with_reducible assumption) | (with_reducible apply RowB.le; rotate_left; with_reducible assumption))); done))))))); (all_goals (conv => whnf)))
    (all_goals (try dsimp only [Q.eta, Sn.eta, SlV.eta] at *)); (all_goals (first | exact Side.mk trivial | with_reducible exact Side.mk rfl | exact Side.mk (fun _ _ h => h) | exact Side.mk (Made.le (by assumption)) | refine Side.mk ?_ | refine Don.mk ?_ | skip))
    all_goals try (exfalso; rw [hv'.1] at hh; cases hh; done)
    all_goals try (exfalso; rw [hd] at hh; cases hh; done)
    all_goals first | (show BI d; unfold BI; omega) | exact ⟨hO1, hd⟩ | skip
    all_goals first
      | (rw [warR_2 hv (hb.trans hh)]; exact ⟨⟨none, 0, 0⟩, rfl, Side.mk Fresh.nilRow⟩)
      | skip
    all_goals have hb0 := hb.trans (by assumption : decide (IntKind.i64.wrap (10 * (d.natAbs : Int)) > e) = false)
    all_goals first
      | (have k0 := (by assumption : yy = outO (addO O1 ⟨d, e⟩))
         obtain ⟨k1, rfl⟩ := out_no k0 hh
         rw [warR_3 hv hb0 (warO_1 k1)]
         exact ⟨⟨none, 0, 0⟩, rfl, Side.mk Fresh.nilRow⟩)
      | (have k0 := (by assumption : yy = outO (addO O1 ⟨d, e⟩))
         obtain ⟨t, ht, rfl⟩ := out_some k0 hh
         exact ⟨hC.1, addO_ok ht⟩)
      | skip
    all_goals try (
      rename_i y1 q1 t1
      obtain ⟨t, ht, rfl⟩ := out_some q1 t1
      obtain ⟨k1, rfl⟩ := out_no hq hh
      rw [warR_3 hv hb0 (warO_2 ht k1)]
      exact ⟨⟨none, 0, 0⟩, rfl, Side.mk Fresh.nilRow⟩)
    all_goals (
      rename_i y1 q1 c1
      obtain ⟨⟨t1, t2⟩, ht, rfl⟩ := out_some q1 c1
      obtain ⟨⟨v1, v2⟩, hv3, rfl⟩ := out_some hq hh
      clear hh hq c1 q1
      dsimp only at hv3
      have hW := warO_3 (l := l) ht hv3
      have hlen := mulsO_len l ⟨t1, t2⟩
      have hto := addO_ok ht
      refine ⟨fun m s => ∃ (k : Nat) (i : Int) (o : SlV) (g : List Q) (E' : Ext) (wg : Nat → AV) (ww : Nat → Value), m = l.length - k ∧ k ≤ l.length ∧ i = (k : Int) ∧ g.length = k ∧ Grow 25 2 Q.cells E o g E' ∧ accO [] (mulsO l ⟨t1, t2⟩) = accO g ((mulsO l ⟨t1, t2⟩).drop k) ∧ s = ⟨[.v (ww 0), .v (ww 1), .p 0 0, .p 1 0, .p 2 0, .v (ww 2), .p 3 0, .v (ww 3), .p 4 0, .v (ww 4), .p 5 0, .v (.int .i64 i), wg 0, wg 1, .v (ww 5), .v (ww 6), .v (ww 7), .v (ww 8), .v (ww 9), .v (ww 10), .v (ww 11), .v (ww 12), .p 1 0, .v (ww 13), .v (ww 14), .v (ww 15), .p 1 1, .v (ww 16), .v (ww 17), .v (ww 18), .v (ww 19), .v (ww 20), .v (ww 21), .v (ww 22), .v (ww 23), .v (ww 24), .v (ww 25), .v (ww 26), .v (ww 27), .v (ww 28), .v (ww 29), .p 0 0, .v (ww 30), .v (ww 31), .v (ww 32), .v (ww 33), .v (ww 34), .v (ww 35), .v (ww 36), .v (ww 37), .v (ww 38), .v (ww 39), .v (ww 40), wg 2, wg 3, wg 4, wg 5, wg 6, wg 7, wg 8, wg 9, wg 10, wg 11, wg 12, wg 13, wg 14, wg 15, wg 16, wg 17, wg 18, wg 19, wg 20, .v (ww 41), .v (ww 42), wg 21, wg 22, wg 23, wg 24, wg 25, wg 26, .v (ww 43), .v (ww 44), .v (ww 45), .v (ww 46)], [([.int .i64 a, .int .i64 b, .slice sa n c], 49), ([.int .i64 d, .int .i64 e], 25), ([.int .i64 0, .int .i64 0, .slice none 0 0], 49), ([.int .i64 t1, .int .i64 t2], 25), ([.int .i64 v1, .int .i64 v2], 25), ([.int .i64 v1, .int .i64 v2, .slice o.a o.n o.c], 49)], E'⟩, ⟨_, 0, _, ⟨none, 0, 0⟩, [], E, nthA [_, _, _, _, _, _, _, _, _, _, _, _, _, _, _, _, _, _, _, _, _, _, _, _, _, _, _], nthV [_, _, _, _, _, _, _, _, _, _, _, _, _, _, _, _, _, _, _, _, _, _, _, _, _, _, _, _, _, _, _, _, _, _, _, _, _, _, _, _, _, _, _, _, _, _, _], rfl, Nat.zero_le _, rfl, rfl, Grow.nil, rfl, rfl⟩, ?_⟩
      rintro m s ⟨k, i, o, g, E', wg, ww, rfl, hk, rfl, hgk, hg, hacc, rfl⟩
      rcases hkl : l[k]? with _ | x
      · have hge : l.length ≤ k := List.getElem?_eq_none_iff.1 hkl
        rw [accO_end (by omega)] at hacc
        rw [hacc] at hW
        have hR := hg.done
        have hrow := hR.row
        (repeat' ((conv => whnf); (first | with_reducible apply And.intro | (with_reducible intro hh; first | (with_reducible have hx := NewRow.self hh; clear hx) | (with_reducible have hrow := Made.row hh; have hle := Made.le hh; have hmade := hh; clear hh) | (with_reducible have hrow := Fresh.rowS hh; have hle := Fresh.leS hh; have hfr := hh; clear hh) | (with_reducible have hx := Ext.self hh; clear hx) | (with_reducible have hx := SlV.self hh; clear hx) | (with_reducible have hx := Value.self hh; clear hx) | with_reducible cases hh | skip) | (with_reducible apply AllEq.mk; intro yy hq) | with_reducible apply trivial | with_reducible apply Exists.intro () | (with_reducible apply ex_side; (first | with_reducible assumption | with_reducible apply fracs1 | with_reducible apply fracs2 | with_reducible apply fracs3 | with_reducible apply spans1 | with_reducible apply spans2 | (with_reducible apply NewRow.keep; with_reducible assumption) | (with_reducible apply RowAt.keep; with_reducible assumption) | assumption | (focus ((repeat (first | with_reducible assumption | (with_reducible apply RowAt.le; rotate_left; with_reducible assumption) | (with_reducible apply RowB.le; rotate_left; with_reducible assumption))); done)))) | (with_reducible apply ex_side (a := (_, _)); (focus (with_reducible apply And.intro <;> (focus ((repeat (first | with_reducible assumption | (with_reducible apply RowAt.le; rotate_left; with_reducible assumption) | (with_reducible apply RowB.le; rotate_left; with_reducible assumption))); done))))))); (all_goals (conv => whnf)))
        (all_goals (try dsimp only [Q.eta, Sn.eta, SlV.eta] at *)); (all_goals (first | exact Side.mk trivial | with_reducible exact Side.mk rfl | exact Side.mk (fun _ _ h => h) | exact Side.mk (Made.le (by assumption)) | refine Side.mk ?_ | refine Don.mk ?_ | skip))
        all_goals try (exfalso; have := of_decide_eq_true (by assumption : decide ((k : Int) < (n : Int)) = true); omega)
        · rw [warR_3 hv hb0 (hW.trans (fitO_no (not_t hh)))]
          exact ⟨⟨none, 0, 0⟩, rfl, Side.mk (Fresh.noRow hR.le hR.keep)⟩
        · rw [warR_4 hv hb0 (hW.trans (fitO_yes (not_f hh)))]
          exact ⟨o, rfl, Side.mk hR⟩
      · have hlt : k < l.length := (List.getElem?_eq_some_iff.1 hkl).1
        have hx := allOk_iff.1 hC.2.2.2.2.1 k x hkl
        have hm := mulsO_at (t := ⟨t1, t2⟩) hkl
        have hok : o.n = g.length := hg.done.row.1
        cases sa with
        | none => rw [hnone rfl] at hkl; cases hkl
        | some ad =>
          obtain ⟨h0, h1⟩ := hat rfl hkl
          have h0' := hg.le _ _ h0
          have h1' := hg.le _ _ h1
          (repeat' ((conv => whnf); (first | with_reducible apply And.intro | (with_reducible intro hh; first | (with_reducible have hx := NewRow.self hh; clear hx) | (with_reducible have hrow := Made.row hh; have hle := Made.le hh; have hmade := hh; clear hh) | (with_reducible have hrow := Fresh.rowS hh; have hle := Fresh.leS hh; have hfr := hh; clear hh) | (with_reducible have hx := Ext.self hh; clear hx) | (with_reducible have hx := SlV.self hh; clear hx) | (with_reducible have hx := Value.self hh; clear hx) | with_reducible cases hh | skip) | (with_reducible apply AllEq.mk; intro yy hq) | with_reducible apply trivial | with_reducible apply Exists.intro () | (with_reducible apply ex_side; (first | with_reducible assumption | with_reducible apply fracs1 | with_reducible apply fracs2 | with_reducible apply fracs3 | with_reducible apply spans1 | with_reducible apply spans2 | (with_reducible apply NewRow.keep; with_reducible assumption) | (with_reducible apply RowAt.keep; with_reducible assumption) | assumption | (focus ((repeat (first | with_reducible assumption | (with_reducible apply RowAt.le; rotate_left; with_reducible assumption) | (with_reducible apply RowB.le; rotate_left; with_reducible assumption))); done)))) | (with_reducible apply ex_side (a := (_, _)); (focus (with_reducible apply And.intro <;> (focus ((repeat (first | with_reducible assumption | (with_reducible apply RowAt.le; rotate_left; with_reducible assumption) | (with_reducible apply RowB.le; rotate_left; with_reducible assumption))); done))))))); (all_goals (conv => whnf)))
          (all_goals (try dsimp only [Q.eta, Sn.eta, SlV.eta] at *)); (all_goals (first | exact Side.mk trivial | with_reducible exact Side.mk rfl | exact Side.mk (fun _ _ h => h) | exact Side.mk (Made.le (by assumption)) | refine Side.mk ?_ | refine Don.mk ?_ | skip))
          all_goals first | exact ⟨by omega, by omega⟩ | exact ⟨hx, hto⟩ | (exfalso; have := of_decide_eq_false (by assumption : decide ((k : Int) < (n : Int)) = false); omega) | skip
          all_goals first
            | (obtain ⟨k1, rfl⟩ := out_no hq hh
               rw [k1] at hm
               rw [accO_stop hm] at hacc
               rw [hacc] at hW
               rw [warR_3 hv hb0 hW]
               exact ⟨⟨none, 0, 0⟩, rfl, Side.mk (Fresh.noRow hg.le hg.keep)⟩)
            | (rename_i c2
               obtain ⟨⟨x1, x2⟩, hx1, rfl⟩ := out_some hq c2
               rw [hx1] at hm
               rw [accO_step hm] at hacc
               refine ⟨(_, _), Side.mk ⟨OwnRow.new hh hg.own, cells_new hh rfl, by simp [cellOk], by dsimp only; omega⟩, fun r E2 hpost => ?_⟩
               have hg2 := Grow.push (α := Q) (en := Q.cells) (x := ⟨x1, x2⟩) hg hh hpost
               (repeat' ((conv => whnf); (first | with_reducible apply And.intro | (with_reducible intro hh; first | (with_reducible have hx := NewRow.self hh; clear hx) | (with_reducible have hrow := Made.row hh; have hle := Made.le hh; have hmade := hh; clear hh) | (with_reducible have hrow := Fresh.rowS hh; have hle := Fresh.leS hh; have hfr := hh; clear hh) | (with_reducible have hx := Ext.self hh; clear hx) | (with_reducible have hx := SlV.self hh; clear hx) | (with_reducible have hx := Value.self hh; clear hx) | with_reducible cases hh | skip) | (with_reducible apply AllEq.mk; intro yy hq) | with_reducible apply trivial | with_reducible apply Exists.intro () | (with_reducible apply ex_side; (first | with_reducible assumption | with_reducible apply fracs1 | with_reducible apply fracs2 | with_reducible apply fracs3 | with_reducible apply spans1 | with_reducible apply spans2 | (with_reducible apply NewRow.keep; with_reducible assumption) | (with_reducible apply RowAt.keep; with_reducible assumption) | assumption | (focus ((repeat (first | with_reducible assumption | (with_reducible apply RowAt.le; rotate_left; with_reducible assumption) | (with_reducible apply RowB.le; rotate_left; with_reducible assumption))); done)))) | (with_reducible apply ex_side (a := (_, _)); (focus (with_reducible apply And.intro <;> (focus ((repeat (first | with_reducible assumption | (with_reducible apply RowAt.le; rotate_left; with_reducible assumption) | (with_reducible apply RowB.le; rotate_left; with_reducible assumption))); done))))))); (all_goals (conv => whnf)))
               (all_goals (try dsimp only [Q.eta, Sn.eta, SlV.eta] at *)); (all_goals (first | exact Side.mk trivial | with_reducible exact Side.mk rfl | exact Side.mk (fun _ _ h => h) | exact Side.mk (Made.le (by assumption)) | refine Side.mk ?_ | refine Don.mk ?_ | skip))
               refine ⟨_, ?_, k + 1, _, r, _, E2, nthA [_, _, _, _, _, _, _, _, _, _, _, _, _, _, _, _, _, _, _, _, _, _, _, _, _, _, _], nthV [_, _, _, _, _, _, _, _, _, _, _, _, _, _, _, _, _, _, _, _, _, _, _, _, _, _, _, _, _, _, _, _, _, _, _, _, _, _, _, _, _, _, _, _, _, _, _], rfl, hlt, by rw [wrap_in (by omega) (by omega)]; rfl, by simp [hgk], hg2, hacc, rfl⟩
               omega))
  · have hv0 : (okC ⟨a, b⟩ l && okQ ⟨d, e⟩) = false := by simpa using hv
    have hk : okC ⟨a, b⟩ l = true → okQ ⟨d, e⟩ = true → False := fun h1 h2 => by rw [h1, h2] at hv0; cases hv0
    (repeat' ((conv => whnf); (first | with_reducible apply And.intro | (with_reducible intro hh; first | (with_reducible have hx := NewRow.self hh; clear hx) | (with_reducible have hrow := Made.row hh; have hle := Made.le hh; have hmade := hh; clear hh) | (with_reducible have hrow := Fresh.rowS hh; have hle := Fresh.leS hh; have hfr := hh; clear hh) | (with_reducible have hx := Ext.self hh; clear hx) | (with_reducible have hx := SlV.self hh; clear hx) | (with_reducible have hx := Value.self hh; clear hx) | with_reducible cases hh | skip) | (with_reducible apply AllEq.mk; intro yy hq) | with_reducible apply trivial | with_reducible apply Exists.intro () | (with_reducible apply ex_side; (first | with_reducible assumption | with_reducible apply fracs1 | with_reducible apply fracs2 | with_reducible apply fracs3 | with_reducible apply spans1 | with_reducible apply spans2 | (with_reducible apply NewRow.keep; with_reducible assumption) | (with_reducible apply RowAt.keep; with_reducible assumption) | assumption | (focus ((repeat (first | with_reducible assumption | (with_reducible apply RowAt.le; rotate_left; with_reducible assumption) | (with_reducible apply RowB.le; rotate_left; with_reducible assumption))); done)))) | (with_reducible apply ex_side (a := (_, _)); (focus (with_reducible apply And.intro <;> (focus ((repeat (first | with_reducible assumption | (with_reducible apply RowAt.le; rotate_left; with_reducible assumption) | (with_reducible apply RowB.le; rotate_left; with_reducible assumption))); done))))))); (all_goals (conv => whnf)))
    (all_goals (try dsimp only [Q.eta, Sn.eta, SlV.eta] at *)); (all_goals (first | exact Side.mk trivial | with_reducible exact Side.mk rfl | exact Side.mk (fun _ _ h => h) | exact Side.mk (Made.le (by assumption)) | refine Side.mk ?_ | refine Don.mk ?_ | skip))
    all_goals first
      | (rw [warR_1 hv0]; exact ⟨⟨none, 0, 0⟩, rfl, Side.mk Fresh.nilRow⟩)
      | (exfalso; exact hk (not_f (by assumption)) (not_f (by assumption)))
/-! the library's half -/
theorem warT {u d : Q} {l g : List Q} {s : Bool} (h : accT [] ((addO O1 d).isNone || (mulO u (tolO (addO O1 d))).isNone) (mulsO l (tolO (addO O1 d))) = (g, s)) : (s = true → warO u l d = none) ∧ (s = false → warO u l d = fitO (tolO (mulO u (tolO (addO O1 d)))) (some g)) := by
  have h1 := accT_O (mulsO l (tolO (addO O1 d))) [] ((addO O1 d).isNone || (mulO u (tolO (addO O1 d))).isNone)
  rw [h] at h1
  dsimp only at h1
  obtain ⟨h2, h3⟩ := h1
  cases ha : addO O1 d with
  | none =>
    rw [ha] at h2
    refine ⟨fun _ => warO_1 ha, fun h => ?_⟩
    rw [h] at h2
    simp at h2
  | some t =>
    rw [ha] at h2 h3
    rw [tolO_some] at h2 h3
    cases hm : mulO u t with
    | none =>
      rw [hm] at h2
      refine ⟨fun _ => warO_2 ha hm, fun h => ?_⟩
      rw [h] at h2
      simp at h2
    | some v =>
      rw [hm] at h2
      rw [warO_3 ha hm, tolO_some, hm, tolO_some]
      simp only [Option.isNone_some, Bool.or_false, Bool.false_or] at h2
      cases hc : accO [] (mulsO l t) with
      | none =>
        rw [hc] at h2
        refine ⟨fun _ => rfl, fun h => ?_⟩
        rw [h] at h2
        simp at h2
      | some c =>
        rw [hc] at h2
        refine ⟨fun h => ?_, fun _ => ?_⟩
        · rw [h] at h2
          simp at h2
        · rw [h3 c hc]
theorem accT_step {a : List Q} {s : Bool} {os : List (Option Q)} {k : Nat} {o : Option Q} (h : os[k]? = some o) : accT a s (os.drop k) = accT (a ++ [tolO o]) (s || o.isNone) (os.drop (k + 1)) := by rw [drop_at h, accT]
theorem accT_end {a : List Q} {s : Bool} {os : List (Option Q)} {k : Nat} (h : os.length ≤ k) : accT a s (os.drop k) = (a, s) := by rw [List.drop_eq_nil_of_le h, accT]
theorem sizQ_ok {d : Q} (h : okQ d = true) : okQ (sizQ d) = true := by
  have h := okQ_iff.1 h
  refine okQ_iff.2 ⟨h.1, h.2.1, ?_, ?_, ?_⟩
  · show -1000000000 ≤ (d.p.natAbs : Int); omega
  · show (d.p.natAbs : Int) ≤ 1000000000; omega
  · have := h.2.2.2.2; simpa [sizQ, Int.gcd] using this

set_option maxHeartbeats 4000000 in
set_option maxRecDepth 100000 in
theorem war_ok : Sp.ok Tryz.prog 33 warSp := by
  refine Sp.nf_ok (T := ⟨[(72, scaleOkVSp), (63, validSp), (79, sizSp), (58, cmpSp), (80, wholeSp), (50, taddqSp), (53, tmulqSp)], []⟩) follows eqok0 ⟨enters Tryz.func72 rfl rfl, scaleV_ok, enters Tryz.func63 rfl rfl, valid_ok, enters Tryz.func79 rfl rfl, siz_ok, enters Tryz.func58 rfl rfl, cmp_ok, enters Tryz.func80 rfl rfl, num_ok, enters Tryz.func50 rfl rfl, taddq_ok, enters Tryz.func53 rfl rfl, tmulq_ok, trivial⟩ [(6, .take 0 (.take 2 (.alt 1 (.alt 3 (.alt 4 (.alt 5 (.done) (.last)) (.last)) (.alt 4 (.alt 3 (.alt 5 (.done) (.last)) (.last)) (.last))) (.alt 4 (.alt 1 (.alt 3 (.alt 5 (.done) (.last)) (.last)) (.last)) (.last))))), (11, .take 0 (.take 2 (.take 3 (.take 4 (.alt 1 (.alt 5 (.alt 6 (.alt 7 (.take 8 (.alt 9 (.done) (.last))) (.last)) (.last)) (.last)) (.alt 5 (.alt 1 (.alt 6 (.alt 7 (.take 8 (.alt 9 (.done) (.last))) (.last)) (.last)) (.alt 6 (.alt 1 (.alt 7 (.take 8 (.alt 9 (.done) (.last))) (.last)) (.last)) (.last))) (.last)))))))] Tryz.func33 rfl (by kernel_rfl) _ _ _ _ fun x l E hp => ?_
  obtain ⟨⟨⟨a, b⟩, ⟨sa, n, c⟩⟩, ⟨d, e⟩, u⟩ := x
  dsimp only at hp
  have hp0 := hp
  have hat := @FracsAt.at _ _ _ hp
  obtain ⟨hn, hmax, hnone, _⟩ := hp
  dsimp only at hn hmax hnone hat
  by_cases hv : (okC ⟨a, b⟩ l && okQ ⟨d, e⟩) = true
  · have hv' := hv
    rw [Bool.and_eq_true] at hv'
    have hd := hv'.2
    have hO1 : okQ O1 = true := okQ_whole (n := 1) (by decide)
    have hO10 : okQ ⟨1, 10⟩ = true := by decide +kernel
    have hC := okC_iff hv'.1
    (repeat' ((conv => whnf); (first | with_reducible apply And.intro | (with_reducible intro hh; first | (with_reducible have hx := NewRow.self hh; clear hx) | (with_reducible have hrow := Made.row hh; have hle := Made.le hh; have hmade := hh; clear hh) | (with_reducible have hrow := Fresh.rowS hh; have hle := Fresh.leS hh; have hfr := hh; clear hh) | (with_reducible have hx := Ext.self hh; clear hx) | (with_reducible have hx := SlV.self hh; clear hx) | (with_reducible have hx := Value.self hh; clear hx) | with_reducible cases hh | skip) | (with_reducible apply AllEq.mk; intro yy hq) | with_reducible apply trivial | with_reducible apply Exists.intro () | (with_reducible apply ex_side; (first | with_reducible assumption | with_reducible apply fracs1 | with_reducible apply fracs2 | with_reducible apply fracs3 | with_reducible apply spans1 | with_reducible apply spans2 | (with_reducible apply NewRow.keep; with_reducible assumption) | (with_reducible apply RowAt.keep; with_reducible assumption) | assumption | (focus ((repeat (first | with_reducible assumption | (with_reducible apply RowAt.le; rotate_left; with_reducible assumption) | (with_reducible apply RowB.le; rotate_left; with_reducible assumption))); done)))) | (with_reducible apply ex_side (a := (_, _)); (focus (with_reducible apply And.intro <;> (focus ((repeat (first | with_reducible assumption | (with_reducible apply RowAt.le; rotate_left; with_reducible assumption) | (with_reducible apply RowB.le; rotate_left; with_reducible assumption))); done))))))); (all_goals (conv => whnf)))
    (all_goals (try dsimp only [Q.eta, Sn.eta, SlV.eta] at *)); (all_goals (first | exact Side.mk trivial | with_reducible exact Side.mk rfl | exact Side.mk (fun _ _ h => h) | exact Side.mk (Made.le (by assumption)) | refine Side.mk ?_ | refine Don.mk ?_ | skip))
    all_goals first
      | exact hd
      | exact ⟨sizQ_ok hd, hO10⟩
      | exact ⟨hO1, hd⟩
      | (rw [hd] at hh; cases hh; done)
      | (exfalso; rw [hv'.1] at hh; cases hh; done)
      | (rw [warR_2 hv hh]; exact ⟨⟨none, 0, 0⟩, rfl, Side.mk Fresh.nilRow⟩)
      | skip
    all_goals have hb0 : bigB ⟨d, e⟩ = false := (by assumption : decide (cmpQ (sizQ ⟨d, e⟩) ⟨1, 10⟩ > 0) = false)
    all_goals first
      | (have k0 := (by assumption : _ = tolO (addO O1 ⟨d, e⟩)); rw [k0]; exact ⟨hC.1, tolO_add _ _⟩)
      | skip
    all_goals (
      rename_i T hT B hB V hV
      obtain ⟨s0, u0⟩ := yy
      obtain ⟨t1, t2⟩ := T
      obtain ⟨v1, v2⟩ := V
      have hs0 : s0 = ((addO O1 ⟨d, e⟩).isNone || (mulO ⟨a, b⟩ ⟨t1, t2⟩).isNone) := by
        have h1 := congrArg Prod.fst hq
        rw [hB] at h1
        simpa using h1
      clear hq hB
      have hlen := mulsO_len l ⟨t1, t2⟩
      have hto : okQ ⟨t1, t2⟩ = true := by rw [hT]; exact tolO_add _ _
      refine ⟨fun m s => ∃ (k : Nat) (i : Int) (o : SlV) (g : List Q) (f : Bool) (E' : Ext) (wg : Nat → AV) (ww : Nat → Value), m = l.length - k ∧ k ≤ l.length ∧ i = (k : Int) ∧ g.length = k ∧ Grow 25 2 Q.cells E o g E' ∧ accT [] s0 (mulsO l ⟨t1, t2⟩) = accT g f ((mulsO l ⟨t1, t2⟩).drop k) ∧ s = ⟨[.v (ww 0), .v (ww 1), .p 0 0, .p 1 0, .p 2 0, .v (ww 2), .p 3 0, .p 4 0, .p 5 0, .v (ww 3), wg 0, .v (ww 4), .v (ww 5), .v (ww 6), .v (ww 7), .v (ww 8), .v (ww 9), .v (ww 10), .v (ww 11), .v (ww 12), .v (ww 13), .v (ww 14), .v (ww 15), .v (ww 16), .v (ww 17), .v (ww 18), .v (ww 19), .v (ww 20), .v (ww 21), .p 3 0, .p 3 0, .v (ww 22), .v (ww 23), .v (ww 24), .p 3 0, .p 0 0, .v (ww 25), .v (ww 26), .v (ww 27), .v (ww 28), .p 0 2, .v (.slice sa n c), .v (.int .i64 n), .v (.int .i64 i), wg 1, wg 2, wg 3, wg 4, wg 5, wg 6, wg 7, wg 8, wg 9, wg 10, wg 11, wg 12, wg 13, .v (ww 29), .v (ww 30), .v (ww 31), .v (ww 32), .v (ww 33), .v (ww 34), .v (ww 35), .v (ww 36), .v (ww 37), .v (ww 38), .v (ww 39)], [([.int .i64 a, .int .i64 b, .slice sa n c], 49), ([.int .i64 d, .int .i64 e], 25), ([.int .i64 0, .int .i64 0, .slice none 0 0], 49), ([.bool f], 73), ([.int .i64 t1, .int .i64 t2], 25), ([.int .i64 v1, .int .i64 v2, .slice o.a o.n o.c], 49)], E'⟩, ⟨_, 0, _, ⟨none, 0, 0⟩, [], _, E, nthA [_, _, _, _, _, _, _, _, _, _, _, _, _, _], nthV [_, _, _, _, _, _, _, _, _, _, _, _, _, _, _, _, _, _, _, _, _, _, _, _, _, _, _, _, _, _, _, _, _, _, _, _, _, _, _, _], rfl, Nat.zero_le _, rfl, rfl, Grow.nil, rfl, rfl⟩, ?_⟩
      rintro m s ⟨k, i, o, g, f, E', wg, ww, rfl, hk, rfl, hgk, hg, hacc, rfl⟩
      rcases hkl : l[k]? with _ | x
      · have hge : l.length ≤ k := List.getElem?_eq_none_iff.1 hkl
        rw [accT_end (by omega), hs0, hT] at hacc
        obtain ⟨hW1, hW2⟩ := warT hacc
        rw [← hT, ← hV] at hW2
        have hR := hg.done
        have hrow := hR.row
        (repeat' ((conv => whnf); (first | with_reducible apply And.intro | (with_reducible intro hh; first | (with_reducible have hx := NewRow.self hh; clear hx) | (with_reducible have hrow := Made.row hh; have hle := Made.le hh; have hmade := hh; clear hh) | (with_reducible have hrow := Fresh.rowS hh; have hle := Fresh.leS hh; have hfr := hh; clear hh) | (with_reducible have hx := Ext.self hh; clear hx) | (with_reducible have hx := SlV.self hh; clear hx) | (with_reducible have hx := Value.self hh; clear hx) | with_reducible cases hh | skip) | (with_reducible apply AllEq.mk; intro yy hq) | with_reducible apply trivial | with_reducible apply Exists.intro () | (with_reducible apply ex_side; (first | with_reducible assumption | with_reducible apply fracs1 | with_reducible apply fracs2 | with_reducible apply fracs3 | with_reducible apply spans1 | with_reducible apply spans2 | (with_reducible apply NewRow.keep; with_reducible assumption) | (with_reducible apply RowAt.keep; with_reducible assumption) | assumption | (focus ((repeat (first | with_reducible assumption | (with_reducible apply RowAt.le; rotate_left; with_reducible assumption) | (with_reducible apply RowB.le; rotate_left; with_reducible assumption))); done)))) | (with_reducible apply ex_side (a := (_, _)); (focus (with_reducible apply And.intro <;> (focus ((repeat (first | with_reducible assumption | (with_reducible apply RowAt.le; rotate_left; with_reducible assumption) | (with_reducible apply RowB.le; rotate_left; with_reducible assumption))); done))))))); (all_goals (conv => whnf)))
        (all_goals (try dsimp only [Q.eta, Sn.eta, SlV.eta] at *)); (all_goals (first | exact Side.mk trivial | with_reducible exact Side.mk rfl | exact Side.mk (fun _ _ h => h) | exact Side.mk (Made.le (by assumption)) | refine Side.mk ?_ | refine Don.mk ?_ | skip))
        all_goals try (exfalso; have := of_decide_eq_true (by assumption : decide ((k : Int) < (n : Int)) = true); omega)
        all_goals first
          | (rw [warR_3 hv hb0 (hW1 rfl)]; exact ⟨⟨none, 0, 0⟩, rfl, Side.mk (Fresh.noRow hR.le hR.keep)⟩)
          | (rw [warR_3 hv hb0 ((hW2 rfl).trans (fitO_no (not_t hh)))]; exact ⟨⟨none, 0, 0⟩, rfl, Side.mk (Fresh.noRow hR.le hR.keep)⟩)
          | (rw [warR_4 hv hb0 ((hW2 rfl).trans (fitO_yes (not_f hh)))]; exact ⟨o, rfl, Side.mk hR⟩)
      · have hlt : k < l.length := (List.getElem?_eq_some_iff.1 hkl).1
        have hx := allOk_iff.1 hC.2.2.2.2.1 k x hkl
        have hm := mulsO_at (t := ⟨t1, t2⟩) hkl
        have hok : o.n = g.length := hg.done.row.1
        rw [accT_step hm] at hacc
        cases sa with
        | none => rw [hnone rfl] at hkl; cases hkl
        | some ad =>
          obtain ⟨h0, h1⟩ := hat rfl hkl
          have h0' := hg.le _ _ h0
          have h1' := hg.le _ _ h1
          (repeat' ((conv => whnf); (first | with_reducible apply And.intro | (with_reducible intro hh; first | (with_reducible have hx := NewRow.self hh; clear hx) | (with_reducible have hrow := Made.row hh; have hle := Made.le hh; have hmade := hh; clear hh) | (with_reducible have hrow := Fresh.rowS hh; have hle := Fresh.leS hh; have hfr := hh; clear hh) | (with_reducible have hx := Ext.self hh; clear hx) | (with_reducible have hx := SlV.self hh; clear hx) | (with_reducible have hx := Value.self hh; clear hx) | with_reducible cases hh | skip) | (with_reducible apply AllEq.mk; intro yy hq) | with_reducible apply trivial | with_reducible apply Exists.intro () | (with_reducible apply ex_side; (first | with_reducible assumption | with_reducible apply fracs1 | with_reducible apply fracs2 | with_reducible apply fracs3 | with_reducible apply spans1 | with_reducible apply spans2 | (with_reducible apply NewRow.keep; with_reducible assumption) | (with_reducible apply RowAt.keep; with_reducible assumption) | assumption | (focus ((repeat (first | with_reducible assumption | (with_reducible apply RowAt.le; rotate_left; with_reducible assumption) | (with_reducible apply RowB.le; rotate_left; with_reducible assumption))); done)))) | (with_reducible apply ex_side (a := (_, _)); (focus (with_reducible apply And.intro <;> (focus ((repeat (first | with_reducible assumption | (with_reducible apply RowAt.le; rotate_left; with_reducible assumption) | (with_reducible apply RowB.le; rotate_left; with_reducible assumption))); done))))))); (all_goals (conv => whnf)))
          (all_goals (try dsimp only [Q.eta, Sn.eta, SlV.eta] at *)); (all_goals (first | exact Side.mk trivial | with_reducible exact Side.mk rfl | exact Side.mk (fun _ _ h => h) | exact Side.mk (Made.le (by assumption)) | refine Side.mk ?_ | refine Don.mk ?_ | skip))
          all_goals first | exact ⟨by omega, by omega⟩ | exact ⟨hx, hto⟩ | (exfalso; have := of_decide_eq_false (by assumption : decide ((k : Int) < (n : Int)) = false); omega) | skip
          all_goals (
            rename_i X hX
            obtain ⟨x1, x2⟩ := X
            obtain ⟨s1, u1⟩ := yy
            have hs1 : s1 = (f || (mulO x ⟨t1, t2⟩).isNone) := congrArg Prod.fst hq
            rw [← hX, ← hs1] at hacc
            refine ⟨(_, _), Side.mk ⟨OwnRow.new hh hg.own, cells_new hh rfl, by simp [cellOk], by dsimp only; omega⟩, fun r E2 hpost => ?_⟩
            have hg2 := Grow.push (α := Q) (en := Q.cells) (x := ⟨x1, x2⟩) hg hh hpost
            clear hq hX hs1
            (repeat' ((conv => whnf); (first | with_reducible apply And.intro | (with_reducible intro hh; first | (with_reducible have hx := NewRow.self hh; clear hx) | (with_reducible have hrow := Made.row hh; have hle := Made.le hh; have hmade := hh; clear hh) | (with_reducible have hrow := Fresh.rowS hh; have hle := Fresh.leS hh; have hfr := hh; clear hh) | (with_reducible have hx := Ext.self hh; clear hx) | (with_reducible have hx := SlV.self hh; clear hx) | (with_reducible have hx := Value.self hh; clear hx) | with_reducible cases hh | skip) | (with_reducible apply AllEq.mk; intro yy hq) | with_reducible apply trivial | with_reducible apply Exists.intro () | (with_reducible apply ex_side; (first | with_reducible assumption | with_reducible apply fracs1 | with_reducible apply fracs2 | with_reducible apply fracs3 | with_reducible apply spans1 | with_reducible apply spans2 | (with_reducible apply NewRow.keep; with_reducible assumption) | (with_reducible apply RowAt.keep; with_reducible assumption) | assumption | (focus ((repeat (first | with_reducible assumption | (with_reducible apply RowAt.le; rotate_left; with_reducible assumption) | (with_reducible apply RowB.le; rotate_left; with_reducible assumption))); done)))) | (with_reducible apply ex_side (a := (_, _)); (focus (with_reducible apply And.intro <;> (focus ((repeat (first | with_reducible assumption | (with_reducible apply RowAt.le; rotate_left; with_reducible assumption) | (with_reducible apply RowB.le; rotate_left; with_reducible assumption))); done))))))); (all_goals (conv => whnf)))
            (all_goals (try dsimp only [Q.eta, Sn.eta, SlV.eta] at *)); (all_goals (first | exact Side.mk trivial | with_reducible exact Side.mk rfl | exact Side.mk (fun _ _ h => h) | exact Side.mk (Made.le (by assumption)) | refine Side.mk ?_ | refine Don.mk ?_ | skip))
            refine ⟨_, ?_, k + 1, _, r, _, _, E2, nthA [_, _, _, _, _, _, _, _, _, _, _, _, _, _], nthV [_, _, _, _, _, _, _, _, _, _, _, _, _, _, _, _, _, _, _, _, _, _, _, _, _, _, _, _, _, _, _, _, _, _, _, _, _, _, _, _], rfl, hlt, by rw [wrap_in (by omega) (by omega)]; rfl, by simp [hgk], hg2, hacc, rfl⟩
            omega))
  · have hv0 : (okC ⟨a, b⟩ l && okQ ⟨d, e⟩) = false := by simpa using hv
    have hk : okC ⟨a, b⟩ l = true → okQ ⟨d, e⟩ = true → False := fun h1 h2 => by rw [h1, h2] at hv0; cases hv0
    (repeat' ((conv => whnf); (first | with_reducible apply And.intro | (with_reducible intro hh; first | (with_reducible have hx := NewRow.self hh; clear hx) | (with_reducible have hrow := Made.row hh; have hle := Made.le hh; have hmade := hh; clear hh) | (with_reducible have hrow := Fresh.rowS hh; have hle := Fresh.leS hh; have hfr := hh; clear hh) | (with_reducible have hx := Ext.self hh; clear hx) | (with_reducible have hx := SlV.self hh; clear hx) | (with_reducible have hx := Value.self hh; clear hx) | with_reducible cases hh | skip) | (with_reducible apply AllEq.mk; intro yy hq) | with_reducible apply trivial | with_reducible apply Exists.intro () | (with_reducible apply ex_side; (first | with_reducible assumption | with_reducible apply fracs1 | with_reducible apply fracs2 | with_reducible apply fracs3 | with_reducible apply spans1 | with_reducible apply spans2 | (with_reducible apply NewRow.keep; with_reducible assumption) | (with_reducible apply RowAt.keep; with_reducible assumption) | assumption | (focus ((repeat (first | with_reducible assumption | (with_reducible apply RowAt.le; rotate_left; with_reducible assumption) | (with_reducible apply RowB.le; rotate_left; with_reducible assumption))); done)))) | (with_reducible apply ex_side (a := (_, _)); (focus (with_reducible apply And.intro <;> (focus ((repeat (first | with_reducible assumption | (with_reducible apply RowAt.le; rotate_left; with_reducible assumption) | (with_reducible apply RowB.le; rotate_left; with_reducible assumption))); done))))))); (all_goals (conv => whnf)))
    (all_goals (try dsimp only [Q.eta, Sn.eta, SlV.eta] at *)); (all_goals (first | exact Side.mk trivial | with_reducible exact Side.mk rfl | exact Side.mk (fun _ _ h => h) | exact Side.mk (Made.le (by assumption)) | refine Side.mk ?_ | refine Don.mk ?_ | skip))
    all_goals first
      | exact not_f hh
      | (rw [warR_1 hv0]; exact ⟨⟨none, 0, 0⟩, rfl, Side.mk Fresh.nilRow⟩)
      | (exfalso; exact hk (not_f (by assumption)) (not_f (by assumption)))
      | trace_state
theorem accO_len0 {os : List (Option Q)} {g : List Q} (h : accO [] os = some g) : g.length = os.length := by
  have := accO_len os [] g h
  simpa using this
theorem fitO_len {v v' : Q} {o : Option (List Q)} {g : List Q} (h : fitO v o = some (v', g)) : g.length ≤ 60 := by
  cases o with
  | none => cases h
  | some c =>
    cases hc : okC v c with
    | false => rw [fitO_no hc] at h; cases h
    | true => rw [fitO_yes hc] at h; cases h; exact (okC_iff hc).2.2.2.1
theorem war_le (u : Q) (l : List Q) (d : Q) : (warR u l d).1.2.length ≤ 60 := by
  cases h1 : (okC u l && okQ d) with
  | false => rw [warR_1 h1]; simp
  | true =>
    cases h2 : bigB d with
    | true => rw [warR_2 h1 h2]; simp
    | false =>
      cases h3 : warO u l d with
      | none => rw [warR_3 h1 h2 h3]; simp
      | some p =>
        rw [warR_4 h1 h2 h3]
        unfold warO at h3
        cases ha : addO O1 d with
        | none => rw [ha] at h3; cases h3
        | some t =>
          rw [ha, Option.bind_some] at h3
          cases hm : mulO u t with
          | none => rw [hm] at h3; cases h3
          | some v => rw [hm, Option.bind_some] at h3; exact fitO_len h3
theorem Made.ownNone {α : Type} {e : TypeId} {c : Nat} {en : α → List Value} {y : SlV} {l : List α} {E E' : Ext} (h : Made e c en y l E E') {b : Nat} (h1 : E'.own b = none) : E.own b = none := by
  cases ho : E.own b with
  | none => rfl
  | some p => rw [(h.keep _ _ ho).1] at h1; cases h1

end Go.Proofs.YtadliapkjijahaaGreatDoor
