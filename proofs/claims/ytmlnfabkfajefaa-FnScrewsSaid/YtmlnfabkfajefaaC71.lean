/- Screws with small numbers: where a spindle comes to that is turned, turned to a place, and turned to find the play; plain, for small screws. -/
import Derived.Test.YtmlnfabkfajefaaAb
import Derived.Test.YtmlnfabkfajefaaC1
import Derived.Test.YtmlnfabkfajefaaC2
import Derived.Test.YtmlnfabkfajefaaC3
import Derived.Test.YtmlnfabkfajefaaC4
import Derived.Test.YtmlnfabkfajefaaC5
import Derived.Test.YtmlnfabkfajefaaCL
import Derived.Test.YtmlnfabkfajefaaC6
import Derived.Test.YtmlnfabkfajefaaC7
import Derived.Test.YtmlnfabkfajefaaC8
import Derived.Test.YtmlnfabkfajefaaC9
import Derived.Test.YtmlnfabkfajefaaCO
import Derived.Test.YtmlnfabkfajefaaC10
import Derived.Test.YtmlnfabkfajefaaC11
import Derived.Test.YtmlnfabkfajefaaC12
import Derived.Test.YtmlnfabkfajefaaCN
import Derived.Test.YtmlnfabkfajefaaC14
import Derived.Test.YtmlnfabkfajefaaC27
import Derived.Test.YtmlnfabkfajefaaC35
import Derived.Test.YtmlnfabkfajefaaC36
import Derived.Test.YtmlnfabkfajefaaC37
import Derived.Test.YtmlnfabkfajefaaC38
import Derived.Test.YtmlnfabkfajefaaC70
import Derived.Test.YtmlnfabkfajefaaProg
set_option linter.unusedVariables false
set_option linter.unusedSimpArgs false
namespace Go.Proofs.Ytmlnfabkfajefaa
open Ab

/-! screws with small numbers -/
structure SmallM (m : Scr) : Prop where
  okm : okM m = true
  okp : okQ m.pitch = true
  oky : okQ m.play = true
  p1 : 1 ≤ m.pitch.p
  p4 : m.pitch.p ≤ 4
  q3 : m.pitch.q ≤ 3
  n2 : 2 ≤ m.parts
  n21 : m.parts ≤ 21
  y0 : 0 ≤ m.play.p
  y32 : m.play.p ≤ 32
  y48 : m.play.q ≤ 48
  half : 2 * vq m.play ≤ vq m.pitch
/-- What a part of a turn comes to. -/
def stepQ (m : Scr) : Rat := vq m.pitch / (m.parts : Rat)
theorem okQ_w {n : Int} (h : -1000000000 ≤ n) (h' : n ≤ 1000000000) : okQ ⟨n, 1⟩ = true := by
  rw [okQ_iff]
  exact ⟨by show (1 : Int) ≤ 1; omega, by show (1 : Int) ≤ _; omega, h, h', by simp⟩
theorem vq_w (n : Int) : vq ⟨n, 1⟩ = (n : Rat) := by
  unfold vq
  show (n : Rat) / ((1 : Int) : Rat) = n
  have : ((1 : Int) : Rat) = 1 := rfl
  rw [this]
  grind
theorem ends_small {m : Scr} (h : SmallM m) {t : Int} (h1 : -10000 ≤ t) (h2 : t ≤ 10000) : ∃ e, endsO m t = some e ∧ nutO m t = some e.hi ∧ okQ e.lo = true ∧ okQ e.hi = true ∧ vq e.hi = (t : Rat) * stepQ m ∧ vq e.lo = (t : Rat) * stepQ m - vq m.play := by
  have hp := okQ_pos h.okp
  have hy := okQ_pos h.oky
  have g1 := h.p1
  have g2 := h.p4
  have g3 := h.q3
  have g4 := h.n2
  have g5 := h.n21
  have g6 := h.y0
  have g7 := h.y32
  have g8 := h.y48
  have b1 : (t * m.pitch.p).natAbs ≤ 40000 := nm_mul (a := 10000) (b := 4) (by omega) (by omega) (by omega)
  have b2 : (1 * m.pitch.q).natAbs ≤ 3 := by omega
  obtain ⟨a, ea, oa, va, a1, a2⟩ := mk_small (p := t * m.pitch.p) (q := 1 * m.pitch.q) (by omega) (by omega) (by omega)
  have ha := okQ_pos oa
  have ea' : mulO ⟨t, 1⟩ m.pitch = some a := by rw [mul_def]; exact ea
  have wt := okQ_w (n := t) (by omega) (by omega)
  have wn := okQ_w (n := m.parts) (by omega) (by omega)
  have va' := mul_some wt h.okp ea'
  rw [vq_w] at va'
  have b3 : (a.q * m.parts).natAbs ≤ 63 := nm_mul (a := 3) (b := 21) (by omega) (by omega) (by omega)
  have n3 : a.q * m.parts ≠ 0 := Int.mul_ne_zero (by omega) (by omega)
  obtain ⟨n, en, on, vn, c1, c2⟩ := mk_small (p := a.p * 1) (q := a.q * m.parts) n3 (by omega) (by omega)
  have en' : divO a ⟨m.parts, 1⟩ = some n := by
    rw [div_def (by show m.parts ≠ 0; omega)]
    exact en
  have vn' := div_some oa wn (by show m.parts ≠ 0; omega) en'
  rw [vq_w] at vn'
  have hn := okQ_pos on
  have b4 : (n.q * m.play.q).natAbs ≤ 3024 := nm_mul (a := 63) (b := 48) (by omega) (by omega) (by omega)
  have b5 : (n.p * m.play.q).natAbs ≤ 1920000 := nm_mul (a := 40000) (b := 48) (by omega) (by omega) (by omega)
  have b6 : (m.play.p * n.q).natAbs ≤ 2016 := nm_mul (a := 32) (b := 63) (by omega) (by omega) (by omega)
  have n4 : n.q * m.play.q ≠ 0 := Int.mul_ne_zero (by omega) (by omega)
  obtain ⟨l, el, ol, vl, d1, d2⟩ := mk_small (p := n.p * m.play.q - m.play.p * n.q) (q := n.q * m.play.q) n4 (by omega) (by omega)
  have el' : subO n m.play = some l := by rw [sub_def]; exact el
  have vl' := sub_some on h.oky el'
  have eN : nutO m t = some n := by unfold nutO; rw [ea']; exact en'
  have hv : vq n = (t : Rat) * stepQ m := by
    rw [vn', va']
    unfold stepQ
    have := rat_pos (n := m.parts) (by omega)
    grind
  refine ⟨⟨l, n⟩, ?_, eN, ol, on, hv, by rw [← hv]; exact vl'⟩
  unfold endsO
  rw [eN]
  show (subO n m.play).map _ = _
  rw [el']
  rfl
theorem step_pos {m : Scr} (h : SmallM m) : 0 < stepQ m := by
  have := rat_pos (n := m.parts) (by have := h.n2; omega)
  have k1 := rat_pos (okQ_pos h.okp)
  have k2 := rat_pos (n := m.pitch.p) (by have := h.p1; omega)
  unfold stepQ vq
  rw [Rat.lt_div_iff this, Rat.lt_div_iff k1]
  grind
theorem play_nn {m : Scr} (h : SmallM m) : 0 ≤ vq m.play := by
  have k1 := rat_pos (okQ_pos h.oky)
  have k2 := vq_mul (okQ_pos h.oky)
  have k3 : (0 : Rat) ≤ (m.play.p : Rat) := by exact_mod_cast h.y0
  rw [← k2] at k3
  have := Rat.mul_lt_mul_right (a := vq m.play) (b := 0) k1
  grind
theorem okX_of {m : Scr} (h : SmallM m) {x : Spn} (h1 : -10000 ≤ x.turned) (h2 : x.turned ≤ 10000) (ok : okQ x.pos = true) (l1 : (x.turned : Rat) * stepQ m - vq m.play ≤ vq x.pos) (l2 : vq x.pos ≤ (x.turned : Rat) * stepQ m) : okX m x = true := by
  obtain ⟨e, he, _, o1, o2, v1, v2⟩ := ends_small h h1 h2
  unfold okX
  rw [h.okm, ok, within_iff.2 ⟨h1, h2⟩, he]
  show (true && (true && (true && inS e x.pos))) = true
  unfold inS
  have c1 := (cmp_le (okQ_pos o1) (okQ_pos ok)).2 (by grind)
  have c2 := (cmp_le (okQ_pos ok) (okQ_pos o2)).2 (by grind)
  simp [c1, c2]
theorem okX_vals {m : Scr} (h : SmallM m) {x : Spn} (hx : okX m x = true) : -10000 ≤ x.turned ∧ x.turned ≤ 10000 ∧ okQ x.pos = true ∧ (x.turned : Rat) * stepQ m - vq m.play ≤ vq x.pos ∧ vq x.pos ≤ (x.turned : Rat) * stepQ m := by
  unfold okX at hx
  rw [Bool.and_eq_true, Bool.and_eq_true, Bool.and_eq_true] at hx
  obtain ⟨_, h1, h2, h3⟩ := hx
  rw [within_iff] at h1
  obtain ⟨e, he, _, o1, o2, v1, v2⟩ := ends_small h h1.1 h1.2
  rw [he] at h3
  have h4 : inS e x.pos = true := h3
  unfold inS at h4
  rw [Bool.and_eq_true] at h4
  have c1 := (cmp_le (okQ_pos o1) (okQ_pos h2)).1 (of_decide_eq_true h4.1)
  have c2 := (cmp_le (okQ_pos h2) (okQ_pos o2)).1 (of_decide_eq_true h4.2)
  refine ⟨h1.1, h1.2, h2, ?_, ?_⟩
  · grind
  · grind
/-- Where a spindle comes to that is turned. -/
theorem turn_small {m : Scr} (h : SmallM m) {x : Spn} (hx : okX m x = true) {b : Int} (b1 : -20000 ≤ b) (b2 : b ≤ 20000) (t1 : -10000 ≤ x.turned + b) (t2 : x.turned + b ≤ 10000) : ∃ y, turnR m x b = (y, 0) ∧ okX m y = true ∧ y.turned = x.turned + b ∧
    (vq x.pos < ((x.turned + b : Int) : Rat) * stepQ m - vq m.play → vq y.pos = ((x.turned + b : Int) : Rat) * stepQ m - vq m.play) ∧
    (((x.turned + b : Int) : Rat) * stepQ m < vq x.pos → vq y.pos = ((x.turned + b : Int) : Rat) * stepQ m) ∧
    (((x.turned + b : Int) : Rat) * stepQ m - vq m.play ≤ vq x.pos → vq x.pos ≤ ((x.turned + b : Int) : Rat) * stepQ m → y.pos = x.pos) := by
  obtain ⟨e, he, _, o1, o2, v1, v2⟩ := ends_small h t1 t2
  obtain ⟨x1, x2, x3, x4, x5⟩ := okX_vals h hx
  have hy := play_nn h
  have g1 : okQ (greQ e.lo x.pos) = true := by unfold greQ; split <;> assumption
  have g2 : okQ (lesQ e.hi (greQ e.lo x.pos)) = true := by unfold lesQ; split <;> assumption
  have k1 := cmp_ge (okQ_pos o1) (okQ_pos x3)
  have k2 := cmp_le (okQ_pos o2) (okQ_pos g1)
  have hr : turnR m x b = (⟨x.turned + b, lesQ e.hi (greQ e.lo x.pos)⟩, 0) := by
    unfold turnR
    rw [he, grd_yes (by rw [within_iff.2 ⟨b1, b2⟩, within_iff.2 ⟨t1, t2⟩]; rfl)]
  have main : (vq x.pos < ((x.turned + b : Int) : Rat) * stepQ m - vq m.play → lesQ e.hi (greQ e.lo x.pos) = e.lo ∨ vq (lesQ e.hi (greQ e.lo x.pos)) = vq e.lo) ∧ (((x.turned + b : Int) : Rat) * stepQ m < vq x.pos → lesQ e.hi (greQ e.lo x.pos) = e.hi) ∧ (((x.turned + b : Int) : Rat) * stepQ m - vq m.play ≤ vq x.pos → vq x.pos ≤ ((x.turned + b : Int) : Rat) * stepQ m → vq (lesQ e.hi (greQ e.lo x.pos)) = vq x.pos) := by
    by_cases q1 : 0 ≤ cmpQ e.lo x.pos
    · have w1 := k1.1 q1
      have eg : greQ e.lo x.pos = e.lo := by unfold greQ; rw [if_pos q1]
      rw [eg] at k2 ⊢
      by_cases q2 : cmpQ e.hi e.lo ≤ 0
      · have w2 := k2.1 q2
        have el : lesQ e.hi e.lo = e.hi := by unfold lesQ; rw [if_pos q2]
        rw [el]
        refine ⟨fun _ => .inr (by grind), fun _ => rfl, fun _ _ => by grind⟩
      · have el : lesQ e.hi e.lo = e.lo := by unfold lesQ; rw [if_neg q2]
        rw [el]
        refine ⟨fun _ => .inl rfl, fun _ => by exfalso; grind, fun _ _ => by grind⟩
    · have w1 : vq x.pos > vq e.lo := by grind
      have eg : greQ e.lo x.pos = x.pos := by unfold greQ; rw [if_neg q1]
      rw [eg] at k2 ⊢
      by_cases q2 : cmpQ e.hi x.pos ≤ 0
      · have w2 := k2.1 q2
        have el : lesQ e.hi x.pos = e.hi := by unfold lesQ; rw [if_pos q2]
        rw [el]
        refine ⟨fun _ => by exfalso; grind, fun _ => rfl, fun _ _ => by grind⟩
      · have el : lesQ e.hi x.pos = x.pos := by unfold lesQ; rw [if_neg q2]
        rw [el]
        refine ⟨fun _ => by exfalso; grind, fun _ => by exfalso; grind, fun _ _ => rfl⟩
  have f1 : vq x.pos < ((x.turned + b : Int) : Rat) * stepQ m - vq m.play → vq (lesQ e.hi (greQ e.lo x.pos)) = ((x.turned + b : Int) : Rat) * stepQ m - vq m.play := fun q => by
    rcases main.1 q with r | r
    · rw [r, v2]
    · rw [r, v2]
  have f2 : ((x.turned + b : Int) : Rat) * stepQ m < vq x.pos → vq (lesQ e.hi (greQ e.lo x.pos)) = ((x.turned + b : Int) : Rat) * stepQ m := fun q => by rw [main.2.1 q, v1]
  have f3 := main.2.2
  refine ⟨_, hr, okX_of h t1 t2 g2 ?_ ?_, rfl, f1, f2, fun q r => vq_inj g2 x3 (f3 q r)⟩
  · dsimp only
    grind
  · dsimp only
    grind
/-! what a screw's law says -/
theorem start_ok {m : Scr} (h : SmallM m) : okX m ⟨0, ⟨0, 1⟩⟩ = true := by
  have hy := play_nn h
  have hv : vq ⟨0, 1⟩ = 0 := by rw [vq_w]; rfl
  refine okX_of h (by decide) (by decide) (by decide) ?_ ?_
  · show ((0 : Int) : Rat) * stepQ m - vq m.play ≤ vq ⟨0, 1⟩
    rw [hv]
    have : ((0 : Int) : Rat) = 0 := rfl
    grind
  · show vq ⟨0, 1⟩ ≤ ((0 : Int) : Rat) * stepQ m
    rw [hv]
    have : ((0 : Int) : Rat) = 0 := rfl
    grind
theorem turnF_small {m : Scr} (h : SmallM m) {x : Spn} (hx : okX m x = true) {b : Int} (b1 : -20000 ≤ b) (b2 : b ≤ 20000) (t1 : -10000 ≤ x.turned + b) (t2 : x.turned + b ≤ 10000) : ∃ y, turnF m x b = (y, 0) ∧ okX m y = true ∧ y.turned = x.turned + b ∧
    (vq x.pos < ((x.turned + b : Int) : Rat) * stepQ m - vq m.play → vq y.pos = ((x.turned + b : Int) : Rat) * stepQ m - vq m.play) ∧
    (((x.turned + b : Int) : Rat) * stepQ m < vq x.pos → vq y.pos = ((x.turned + b : Int) : Rat) * stepQ m) ∧
    (((x.turned + b : Int) : Rat) * stepQ m - vq m.play ≤ vq x.pos → vq x.pos ≤ ((x.turned + b : Int) : Rat) * stepQ m → y.pos = x.pos) := by
  have e : turnF m x b = turnR m x b := by unfold turnF; rw [grd_yes hx]
  rw [e]
  exact turn_small h hx b1 b2 t1 t2
theorem read_small {m : Scr} (h : SmallM m) {x : Spn} (hx : okX m x = true) : ∃ r, readR m x = (r, 0) ∧ okQ r = true ∧ vq r = (x.turned : Rat) * stepQ m ∧ (∃ l, subO r m.play = some l ∧ okQ l = true ∧ vq l = vq r - vq m.play) := by
  obtain ⟨x1, x2, _⟩ := okX_vals h hx
  obtain ⟨e, he, hn, o1, o2, v1, v2⟩ := ends_small h x1 x2
  refine ⟨e.hi, ?_, o2, v1, e.lo, ?_, o1, by rw [v1, v2]⟩
  · unfold readR
    rw [if_pos hx, hn]
    rfl
  · unfold endsO at he
    rw [hn] at he
    have he' : (subO e.hi m.play).map (fun l => (⟨l, e.hi⟩ : Sn)) = some e := he
    cases hs : subO e.hi m.play with
    | none => rw [hs] at he'; cases he'
    | some l =>
      rw [hs] at he'
      have e1 : (⟨l, e.hi⟩ : Sn) = e := Option.some.inj he'
      exact congrArg some (congrArg Sn.lo e1)
/-- Less, of two fractions. -/
def lessB (a b : Q) : Bool := okQ a && okQ b && decide (cmpQ a b < 0)
theorem less_f {a b : Q} (ha : okQ a = true) (hb : okQ b = true) (h : vq b ≤ vq a) : lessB a b = false := by
  have := cmp_lt (okQ_pos ha) (okQ_pos hb)
  unfold lessB
  rw [ha, hb]
  simp
  grind
theorem less_t {a b : Q} (ha : okQ a = true) (hb : okQ b = true) (h : vq a < vq b) : lessB a b = true := by
  have := cmp_lt (okQ_pos ha) (okQ_pos hb)
  unfold lessB
  rw [ha, hb]
  simp
  grind
theorem less_iff {a b : Q} (ha : okQ a = true) (hb : okQ b = true) : lessB a b = true ↔ vq a < vq b := by
  have := cmp_lt (okQ_pos ha) (okQ_pos hb)
  unfold lessB
  rw [ha, hb]
  simp [this]
theorem add_val {a b : Q} (h1 : 0 < a.q) (h2 : 0 < b.q) : vq a + vq b = ((a.p * b.q + b.p * a.q : Int) : Rat) / ((a.q * b.q : Int) : Rat) := by
  have n1 := rat_pos h1
  have n2 := rat_pos h2
  simp only [Rat.intCast_mul, Rat.intCast_add]
  unfold vq
  grind
/-- The first half of the law: a spindle that is turned from its start, and on by more than a turn, and back. -/
structure Half (m : Scr) (by_ : Int) (due : Spn) (read low : Q) (fw back : Spn) (nut last : Q) : Prop where
  start : okX m ⟨0, ⟨0, 1⟩⟩ = true
  one : turnF m ⟨0, ⟨0, 1⟩⟩ by_ = (due, 0)
  dueok : okX m due = true
  duet : due.turned = by_
  two : readR m due = (read, 0)
  three : subO read m.play = some low
  okr : okQ read = true
  f1 : lessB read due.pos = false
  f2 : lessB due.pos low = false
  four : turnF m due (m.parts + 1) = (fw, 0)
  fwok : okX m fw = true
  five : readR m fw = (nut, 0)
  six : addO fw.pos m.play = some nut
  seven : turnF m fw (-m.parts - 1) = (back, 0)
  eight : readR m back = (last, 0)
  back1 : back.pos = last
  back2 : back.turned = by_
theorem half_law {m : Scr} (h : SmallM m) {b : Int} (b1 : -60 ≤ b) (b2 : b ≤ 60) : ∃ due read low fw back nut last, Half m b due read low fw back nut last := by
  have hs := start_ok h
  have hy := play_nn h
  have hst := step_pos h
  have g4 := h.n2
  have g5 := h.n21
  have hN := rat_pos (n := m.parts) (by omega)
  have hpitch : vq m.pitch = (m.parts : Rat) * stepQ m := by unfold stepQ; grind
  have hhalf := h.half
  obtain ⟨due, e1, o1, t1, _⟩ := turnF_small h hs (b := b) (by omega) (by omega) (by show -10000 ≤ 0 + b; omega) (by show 0 + b ≤ 10000; omega)
  have t1' : due.turned = b := by rw [t1]; show 0 + b = b; omega
  obtain ⟨read, e2, o2, v2, low, e3, o3, v3⟩ := read_small h o1
  obtain ⟨_, _, q1, l1, l2⟩ := okX_vals h o1
  obtain ⟨fw, e4, o4, t4, k4, _⟩ := turnF_small h o1 (b := m.parts + 1) (by omega) (by omega) (by omega) (by omega)
  obtain ⟨nut, e5, o5, v5, _⟩ := read_small h o4
  obtain ⟨_, _, q4, _, _⟩ := okX_vals h o4
  obtain ⟨back, e7, o7, t7, _, k7, _⟩ := turnF_small h o4 (b := -m.parts - 1) (by omega) (by omega) (by omega) (by omega)
  obtain ⟨last, e8, o8, v8, _⟩ := read_small h o7
  obtain ⟨_, _, q7, _, _⟩ := okX_vals h o7
  have t4' : fw.turned = b + m.parts + 1 := by omega
  have t7' : back.turned = b := by omega
  have c1 : ((due.turned + (m.parts + 1) : Int) : Rat) = (b : Rat) + (m.parts : Rat) + 1 := by rw [t1']; simp only [Rat.intCast_add]; grind
  have c2 : (fw.turned : Rat) = (b : Rat) + (m.parts : Rat) + 1 := by rw [t4']; simp only [Rat.intCast_add]; grind
  have c3 : ((fw.turned + (-m.parts - 1) : Int) : Rat) = (b : Rat) := by rw [show fw.turned + (-m.parts - 1) = b by omega]
  rw [c1] at k4
  rw [c3] at k7
  rw [c2] at v5
  rw [t1'] at l1 l2 v2
  rw [t7'] at v8
  have w4 : vq fw.pos = ((b : Rat) + (m.parts : Rat) + 1) * stepQ m - vq m.play := by
    by_cases hlt : vq due.pos < ((b : Rat) + (m.parts : Rat) + 1) * stepQ m - vq m.play
    · exact k4 hlt
    · exfalso; grind
  have w7 : vq back.pos = (b : Rat) * stepQ m := by
    refine k7 ?_
    grind
  have f1 : 0 < fw.pos.q := okQ_pos q4
  have f2 : 0 < m.play.q := okQ_pos h.oky
  have f3 : fw.pos.q * m.play.q ≠ 0 := Int.mul_ne_zero (by omega) (by omega)
  have e6 : addO fw.pos m.play = some nut := by
    rw [add_def]
    refine mk_of (p := fw.pos.p * m.play.q + m.play.p * fw.pos.q) (q := fw.pos.q * m.play.q) f3 o5 ?_
    rw [← add_val f1 f2, v5, w4]
    grind
  refine ⟨due, read, low, fw, back, nut, last, hs, e1, o1, t1', e2, e3, o2, less_f o2 q1 (by grind), less_f q1 o3 (by grind), e4, o4, e5, e6, e7, e8, vq_inj q7 o8 (by grind), t7'⟩
theorem until_res {m : Scr} {b : Int} {stop : Spn → Bool} (P : Spn → Prop) (hP : ∀ x, P x → (turnR m x b).2 = 0 → P (turnR m x b).1) : ∀ (k : Nat) (c : Int) (x : Spn), P x → (untilR m b stop k c x).2.2 = 0 → P (untilR m b stop k c x).1 ∧ stop (untilR m b stop k c x).1 = true ∧ ∃ n : Int, c ≤ n ∧ n ≤ c + k ∧ (untilR m b stop k c x).2.1 = n * b ∧ (stop x = false → c + 1 ≤ n)
  | 0, c, x, hx, h => by
    unfold untilR at h ⊢
    split at h
    · rename_i hs
      rw [if_pos hs]
      exact ⟨hx, hs, c, by omega, by omega, rfl, fun h => by rw [hs] at h; cases h⟩
    · cases h
  | k + 1, c, x, hx, h => by
    unfold untilR at h ⊢
    split at h
    · rename_i hs
      rw [if_pos hs]
      exact ⟨hx, hs, c, by omega, by omega, rfl, fun h => by rw [hs] at h; cases h⟩
    · rename_i hs
      rw [if_neg hs]
      split at h
      · rename_i h2
        rw [if_pos h2]
        obtain ⟨r1, r2, n, r3, r4, r5, _⟩ := until_res P hP k (c + 1) _ (hP x hx h2) h
        exact ⟨r1, r2, n, by omega, by omega, r5, fun _ => by omega⟩
      · exact absurd h (by assumption)
theorem turnR_pos {m : Scr} {x : Spn} {b : Int} (hx : okQ x.pos = true) (h : (turnR m x b).2 = 0) : okQ (turnR m x b).1.pos = true := by
  unfold turnR grd at h ⊢
  split at h
  · rename_i h0
    rw [if_pos h0]
    split at h
    · rename_i e he
      have ho : okQ e.lo = true ∧ okQ e.hi = true := endsO_ok he
      have hg : okQ (greQ e.lo x.pos) = true := by
        unfold greQ
        split
        · exact ho.1
        · exact hx
      show okQ (lesQ e.hi (greQ e.lo x.pos)) = true
      unfold lesQ
      split
      · exact ho.2
      · exact hg
    · cases h
  · cases h
theorem cmp_eq {a b : Q} : cmpQ a b = 0 ∨ cmpQ a b = 1 ∨ cmpQ a b = -1 := by
  unfold cmpQ
  split
  · exact .inr (.inr rfl)
  · split
    · exact .inr (.inl rfl)
    · exact .inl rfl
/-- To turn to a place comes to it or beyond. -/
theorem to_law {m : Scr} {x : Spn} {t : Q} {n : Int} (hx : okX m x = true) (hp : okQ x.pos = true) (ht : okQ t = true) (h : (toR m x t n).2.2 = 0) : okQ (toR m x t n).1.pos = true ∧ (lessB x.pos t = true → lessB (toR m x t n).1.pos t = false ∧ 0 < (toR m x t n).2.1) ∧ (lessB t x.pos = true → lessB t (toR m x t n).1.pos = false ∧ (toR m x t n).2.1 < 0) ∧ (x.pos = t → (toR m x t n).2.1 = 0) := by
  unfold toR at h ⊢
  rw [hx, ht] at h ⊢
  simp only [Bool.and_self, if_true] at h ⊢
  split at h
  · rename_i hw
    rw [if_pos hw]
    obtain ⟨r1, r2, n', r3, r4, r5, r6⟩ := until_res (fun y => okQ y.pos = true) (fun y h1 h2 => turnR_pos h1 h2) n.toNat 0 x hp h
    revert r1 r2 r5
    generalize untilR m (cmpQ t x.pos) (stopT (cmpQ t x.pos, t)) n.toNat 0 x = r
    intro r1 r2 r5
    have p1 := okQ_pos hp
    have p2 := okQ_pos ht
    have p3 := okQ_pos r1
    have l1 := cmp_lt p2 p1
    have l2 := cmp_gt p2 p1
    have m1 := cmp_lt p3 p2
    have m2 := cmp_gt p3 p2
    have s1 := less_iff hp ht
    have s2 := less_iff ht hp
    unfold stopT at r2 r6
    have r2' := of_decide_eq_true r2
    dsimp only at r2'
    have k1 := less_f r1 ht
    have k2 := less_f ht r1
    have q1 := cmp_lt p1 p2
    have q2 := cmp_gt p1 p2
    refine ⟨r1, fun hl => ?_, fun hl => ?_, fun he => ?_⟩
    · have e := l2.2 (s1.1 hl)
      have e' : cmpQ t x.pos = 1 := by rcases cmp_eq (a := t) (b := x.pos) with h | h | h <;> omega
      rw [e'] at r2' r5 r6
      have e'' := q1.2 (s1.1 hl)
      have r7 := r6 (by dsimp only; exact decide_eq_false (by omega))
      exact ⟨k1 (by grind), by omega⟩
    · have e := l1.2 (s2.1 hl)
      have e' : cmpQ t x.pos = -1 := by rcases cmp_eq (a := t) (b := x.pos) with h | h | h <;> omega
      rw [e'] at r2' r5 r6
      have e'' := q2.2 (s2.1 hl)
      have r7 := r6 (by dsimp only; exact decide_eq_false (by omega))
      exact ⟨k2 (by grind), by omega⟩
    · rw [he] at r5
      have e' : cmpQ t t = 0 := by unfold cmpQ; simp
      rw [e'] at r5
      omega
  · cases h
/-! the play that is found -/
theorem mov_fwd {m : Scr} (h : SmallM m) : ∀ (k : Nat) (c : Int) (x : Spn), okX m x = true → -10000 ≤ x.turned → x.turned + k ≤ 10000 → (movR m 1 k c x).2.2 = 7 ∨ ((movR m 1 k c x).2.2 = 0 ∧ okX m (movR m 1 k c x).1 = true ∧ x.turned ≤ (movR m 1 k c x).1.turned ∧ (movR m 1 k c x).1.turned ≤ x.turned + k ∧ vq (movR m 1 k c x).1.pos = ((movR m 1 k c x).1.turned : Rat) * stepQ m - vq m.play)
  | 0, _, _, _, _, _ => .inl rfl
  | k + 1, c, x, hx, t1, t2 => by
    obtain ⟨y, e, oy, ty, k1, k2, k3⟩ := turn_small h hx (b := 1) (by omega) (by omega) (by omega) (by omega)
    unfold movR
    rw [e]
    simp only [if_true]
    split
    · have := mov_fwd h k (c + 1) y oy (by omega) (by omega)
      rcases this with g | ⟨g1, g2, g3, g4, g5⟩
      · exact .inl g
      · exact .inr ⟨g1, g2, by omega, by omega, g5⟩
    · rename_i hne
      refine .inr ⟨rfl, oy, by show _ ≤ y.turned; omega, by show y.turned ≤ _; omega, ?_⟩
      obtain ⟨_, _, _, l1, l2⟩ := okX_vals h hx
      have hs := step_pos h
      have c1 : ((x.turned + 1 : Int) : Rat) = (x.turned : Rat) + 1 := by simp only [Rat.intCast_add]; rfl
      show vq y.pos = (y.turned : Rat) * stepQ m - vq m.play
      rw [ty]
      rw [c1] at k1 k2 k3 ⊢
      by_cases q : vq x.pos < ((x.turned : Rat) + 1) * stepQ m - vq m.play
      · exact k1 q
      · exact absurd (k3 (by grind) (by grind)) hne
theorem mov_back {m : Scr} (h : SmallM m) : ∀ (k : Nat) (c : Int) (x : Spn), okX m x = true → -10000 ≤ x.turned - k → x.turned ≤ 10000 → (movR m (-1) k c x).2.2 = 7 ∨ ((movR m (-1) k c x).2.2 = 0 ∧ c ≤ (movR m (-1) k c x).2.1 ∧ (movR m (-1) k c x).2.1 < c + k ∧ ((x.turned : Rat) - ((movR m (-1) k c x).2.1 : Rat) + (c : Rat) - 1) * stepQ m < vq x.pos)
  | 0, _, _, _, _, _ => .inl rfl
  | k + 1, c, x, hx, t1, t2 => by
    obtain ⟨y, e, oy, ty, k1, k2, k3⟩ := turn_small h hx (b := -1) (by omega) (by omega) (by omega) (by omega)
    have c1 : ((x.turned + -1 : Int) : Rat) = (x.turned : Rat) - 1 := by simp only [Rat.intCast_add]; have : ((-1 : Int) : Rat) = -1 := rfl; grind
    unfold movR
    rw [e]
    simp only [if_true]
    split
    · rename_i hp
      have := mov_back h k (c + 1) y oy (by omega) (by omega)
      rcases this with g | ⟨g1, g2, g3, g4⟩
      · exact .inl g
      · refine .inr ⟨g1, by omega, by omega, ?_⟩
        rw [hp, ty, c1] at g4
        have c2 : ((c + 1 : Int) : Rat) = (c : Rat) + 1 := by simp only [Rat.intCast_add]; rfl
        rw [c2] at g4
        grind
    · rename_i hne
      refine .inr ⟨rfl, by show c ≤ c; omega, by show c < _; omega, ?_⟩
      obtain ⟨_, _, _, l1, l2⟩ := okX_vals h hx
      have hs := step_pos h
      rw [c1] at k1 k2 k3
      show ((x.turned : Rat) - (c : Rat) + (c : Rat) - 1) * stepQ m < vq x.pos
      by_cases q : ((x.turned : Rat) - 1) * stepQ m < vq x.pos
      · grind
      · exact absurd (k3 (by grind) (by grind)) hne
/-- The play that is found is no less than it is. -/
theorem pl_law {m : Scr} (h : SmallM m) {x : Spn} (hx : okX m x = true) (t1 : -60 ≤ x.turned) (t2 : x.turned ≤ 60) : (plR m x 200).2 = 7 ∨ ((plR m x 200).2 = 0 ∧ 1 ≤ (plR m x 200).1 ∧ (plR m x 200).1 ≤ 200 ∧ vq m.play < ((plR m x 200).1 : Rat) * stepQ m) := by
  have f1 := mov_fwd h 200 1 x hx (by omega) (by omega)
  rcases f1 with g | ⟨g1, g2, g3, g4, g5⟩
  · refine .inl ?_
    unfold plR
    rw [if_pos hx, if_pos (by decide)]
    show (if (movR m 1 200 1 x).2.2 = 0 then _ else _ : Int × Int).2 = 7
    rw [if_neg (by rw [g]; decide)]
    exact g
  · have f2 := mov_back h 200 1 (movR m 1 200 1 x).1 g2 (by omega) (by omega)
    have e : plR m x 200 = (if (movR m (-1) 200 1 (movR m 1 200 1 x).1).2.2 = 0 then ((movR m (-1) 200 1 (movR m 1 200 1 x).1).2.1, 0) else (0, (movR m (-1) 200 1 (movR m 1 200 1 x).1).2.2)) := by
      unfold plR
      rw [if_pos hx, if_pos (by decide)]
      show (if (movR m 1 200 1 x).2.2 = 0 then _ else _ : Int × Int) = _
      rw [if_pos g1]
      rfl
    rw [e]
    rcases f2 with r | ⟨r1, r2, r3, r4⟩
    · refine .inl ?_
      rw [if_neg (by rw [r]; decide)]
      exact r
    · refine .inr ?_
      rw [if_pos r1]
      refine ⟨rfl, r2, by show _ ≤ _; omega, ?_⟩
      rw [g5] at r4
      have c1 : ((1 : Int) : Rat) = 1 := rfl
      rw [c1] at r4
      show vq m.play < ((movR m (-1) 200 1 (movR m 1 200 1 x).1).2.1 : Rat) * stepQ m
      grind
theorem last_law {m : Scr} (h : SmallM m) {n : Int} (n1 : 1 ≤ n) (n2 : n ≤ 200) (hn : vq m.play < (n : Rat) * stepQ m) : ∃ s b, divO m.pitch ⟨m.parts, 1⟩ = some s ∧ okQ s = true ∧ mulO s ⟨n, 1⟩ = some b ∧ okQ b = true ∧ lessB m.play b = true := by
  have hp := okQ_pos h.okp
  have g1 := h.p1
  have g2 := h.p4
  have g3 := h.q3
  have g4 := h.n2
  have g5 := h.n21
  have b3 : (m.pitch.q * m.parts).natAbs ≤ 63 := nm_mul (a := 3) (b := 21) (by omega) (by omega) (by omega)
  have n3 : m.pitch.q * m.parts ≠ 0 := Int.mul_ne_zero (by omega) (by omega)
  obtain ⟨s, es, os, vs, c1, c2⟩ := mk_small (p := m.pitch.p * 1) (q := m.pitch.q * m.parts) n3 (by omega) (by omega)
  have es' : divO m.pitch ⟨m.parts, 1⟩ = some s := by
    rw [div_def (by show m.parts ≠ 0; omega)]
    exact es
  have wn := okQ_w (n := m.parts) (by omega) (by omega)
  have vs' := div_some h.okp wn (by show m.parts ≠ 0; omega) es'
  rw [vq_w] at vs'
  have hs := okQ_pos os
  have b4 : (s.p * n).natAbs ≤ 800 := nm_mul (a := 4) (b := 200) (by omega) (by omega) (by omega)
  obtain ⟨b, eb, ob, vb, d1, d2⟩ := mk_small (p := s.p * n) (q := s.q * 1) (by omega) (by omega) (by omega)
  have eb' : mulO s ⟨n, 1⟩ = some b := by rw [mul_def]; exact eb
  have vb' := mul_some os (okQ_w (n := n) (by omega) (by omega)) eb'
  rw [vq_w] at vb'
  refine ⟨s, b, es', os, eb', ob, less_t h.oky ob ?_⟩
  rw [vb', vs']
  have e1 : vq m.pitch / (m.parts : Rat) = stepQ m := rfl
  rw [e1]
  grind

end Go.Proofs.Ytmlnfabkfajefaa
