/- What the law on spans says, of spans with small parts; plain, condition: small parts. -/
import Derived.Test.YtadliapkjijahaaGreatDoorAb
import Derived.Test.YtadliapkjijahaaGreatDoorC1
import Derived.Test.YtadliapkjijahaaGreatDoorC2
import Derived.Test.YtadliapkjijahaaGreatDoorC3
import Derived.Test.YtadliapkjijahaaGreatDoorC4
import Derived.Test.YtadliapkjijahaaGreatDoorC5
import Derived.Test.YtadliapkjijahaaGreatDoorCL
import Derived.Test.YtadliapkjijahaaGreatDoorC6
import Derived.Test.YtadliapkjijahaaGreatDoorC7
import Derived.Test.YtadliapkjijahaaGreatDoorC8
import Derived.Test.YtadliapkjijahaaGreatDoorC9
import Derived.Test.YtadliapkjijahaaGreatDoorCO
import Derived.Test.YtadliapkjijahaaGreatDoorC10
import Derived.Test.YtadliapkjijahaaGreatDoorC12
import Derived.Test.YtadliapkjijahaaGreatDoorC14
import Derived.Test.YtadliapkjijahaaGreatDoorC24
import Derived.Test.YtadliapkjijahaaGreatDoorC25
import Derived.Test.YtadliapkjijahaaGreatDoorC27
import Derived.Test.YtadliapkjijahaaGreatDoorC28
import Derived.Test.YtadliapkjijahaaGreatDoorC30
import Derived.Test.YtadliapkjijahaaGreatDoorCN
import Derived.Test.YtadliapkjijahaaGreatDoorCS
import Derived.Test.YtadliapkjijahaaGreatDoorCD
import Derived.Test.YtadliapkjijahaaGreatDoorC39
import Derived.Test.YtadliapkjijahaaGreatDoorC40
import Derived.Test.YtadliapkjijahaaGreatDoorC41
import Derived.Test.YtadliapkjijahaaGreatDoorCG
import Derived.Test.YtadliapkjijahaaGreatDoorC42
import Derived.Test.YtadliapkjijahaaGreatDoorC43
import Derived.Test.YtadliapkjijahaaGreatDoorC44
import Derived.Test.YtadliapkjijahaaGreatDoorCK
import Derived.Test.YtadliapkjijahaaGreatDoorCF
import Derived.Test.YtadliapkjijahaaGreatDoorCP
import Derived.Test.YtadliapkjijahaaGreatDoorC50
import Derived.Test.YtadliapkjijahaaGreatDoorC51
import Derived.Test.YtadliapkjijahaaGreatDoorC53
import Derived.Test.YtadliapkjijahaaGreatDoorC54
import Derived.Test.YtadliapkjijahaaGreatDoorC55
import Derived.Test.YtadliapkjijahaaGreatDoorC56
import Derived.Test.YtadliapkjijahaaGreatDoorC57
import Derived.Test.YtadliapkjijahaaGreatDoorC58
import Derived.Test.YtadliapkjijahaaGreatDoorC70
import Derived.Test.YtadliapkjijahaaGreatDoorC72
import Derived.Test.YtadliapkjijahaaGreatDoorC76
import Derived.Test.YtadliapkjijahaaGreatDoorC78
import Derived.Test.YtadliapkjijahaaGreatDoorProg
set_option linter.unusedVariables false
set_option linter.unusedSimpArgs false
namespace Go.Proofs.YtadliapkjijahaaGreatDoor
open Ab

theorem sm1 {a b : Q} (ha : SmallF a) (hb : SmallF b) : (a.p * b.q).natAbs ≤ 720 ∧ (b.p * a.q).natAbs ≤ 720 ∧ (a.p * b.p).natAbs ≤ 3600 ∧ (a.q * b.q).natAbs ≤ 144 ∧ a.q * b.q ≠ 0 := by
  have h1 := okQ_pos ha.ok
  have h2 := okQ_pos hb.ok
  have h3 := ha.p
  have h4 := hb.p
  have h5 := ha.q
  have h6 := hb.q
  exact ⟨nm_mul (a := 60) (b := 12) (by omega) (by omega) (by omega), nm_mul (a := 60) (b := 12) (by omega) (by omega) (by omega), nm_mul (a := 60) (b := 60) (by omega) (by omega) (by omega), nm_mul (a := 12) (b := 12) (by omega) (by omega) (by omega), Int.mul_ne_zero (by omega) (by omega)⟩
theorem add_small {a b : Q} (ha : SmallF a) (hb : SmallF b) : ∃ x, addO a b = some x ∧ okQ x = true ∧ vq x = vq a + vq b := by
  obtain ⟨k1, k2, k3, k4, k5⟩ := sm1 ha hb
  obtain ⟨x, hx, ox, vx, _⟩ := mk_small (p := a.p * b.q + b.p * a.q) (q := a.q * b.q) k5 (by omega) (by omega)
  have e : addO a b = some x := by rw [add_def]; exact hx
  exact ⟨x, e, ox, add_some ha.ok hb.ok e⟩
theorem sub_small {a b : Q} (ha : SmallF a) (hb : SmallF b) : ∃ x, subO a b = some x ∧ okQ x = true ∧ vq x = vq a - vq b := by
  obtain ⟨k1, k2, k3, k4, k5⟩ := sm1 ha hb
  obtain ⟨x, hx, ox, vx, _⟩ := mk_small (p := a.p * b.q - b.p * a.q) (q := a.q * b.q) k5 (by omega) (by omega)
  have e : subO a b = some x := by rw [sub_def]; exact hx
  exact ⟨x, e, ox, sub_some ha.ok hb.ok e⟩
theorem mul_small {a b : Q} (ha : SmallF a) (hb : SmallF b) : ∃ x, mulO a b = some x ∧ okQ x = true ∧ vq x = vq a * vq b := by
  obtain ⟨k1, k2, k3, k4, k5⟩ := sm1 ha hb
  obtain ⟨x, hx, ox, vx, _⟩ := mk_small (p := a.p * b.p) (q := a.q * b.q) k5 (by omega) (by omega)
  have e : mulO a b = some x := by rw [mul_def]; exact hx
  exact ⟨x, e, ox, mul_some ha.ok hb.ok e⟩
theorem addO_mk {a b x : Q} (h : addO a b = some x) : mkO (opAdd a b) = some x := by rw [add_def] at h; exact h
theorem subO_mk {a b x : Q} (h : subO a b = some x) : mkO (opSub a b) = some x := by rw [sub_def] at h; exact h
theorem mkO_both {m : Int × Int} {x : Q} (h : mkO m = some x) : okR m.1 m.2 = true ∧ nrm m.1 m.2 = x := by
  unfold mkO at h
  split at h
  · rename_i k
    exact ⟨k, Option.some.inj h⟩
  · cases h
theorem both_some {m n : Int × Int} {x y : Q} (h : mkO m = some x) (k : mkO n = some y) : bothO m n = (⟨x, y⟩, 0) := by
  obtain ⟨h1, h2⟩ := mkO_both h
  obtain ⟨k1, k2⟩ := mkO_both k
  rw [bothO_ok h1 k1, h2, k2]
theorem okS_of {x y : Q} (hx : okQ x = true) (hy : okQ y = true) (h : vq x ≤ vq y) : okS ⟨x, y⟩ = true := by
  have c1 := (cmp_le (okQ_pos hx) (okQ_pos hy)).2 h
  unfold okS
  dsimp only
  rw [hx, hy]
  simp [c1]
theorem in_yes {s : Sn} {a : Q} (hl : okQ s.lo = true) (hh : okQ s.hi = true) (ha : okQ a = true) (h1 : vq s.lo ≤ vq a) (h2 : vq a ≤ vq s.hi) : (true, 0) = inR s a := by
  have o : okS s = true := okS_of (x := s.lo) (y := s.hi) hl hh (by grind)
  have c1 := (cmp_le (okQ_pos hl) (okQ_pos ha)).2 h1
  have c2 := (cmp_le (okQ_pos ha) (okQ_pos hh)).2 h2
  unfold inR
  rw [grd_yes (by rw [o, ha]; rfl)]
  unfold inS
  simp [c1, c2]
theorem min_le {a p : Q} (ha : okQ a = true) (hp : okQ p = true) : vq (minQ a p) ≤ vq a ∧ vq (minQ a p) ≤ vq p := by
  have c := cmp_lt (okQ_pos hp) (okQ_pos ha)
  unfold minQ
  by_cases h : cmpQ p a < 0
  · rw [if_pos h]; have := c.1 h; grind
  · rw [if_neg h]; grind
theorem max_le {a p : Q} (ha : okQ a = true) (hp : okQ p = true) : vq a ≤ vq (maxQ a p) ∧ vq p ≤ vq (maxQ a p) := by
  have c := cmp_gt (okQ_pos hp) (okQ_pos ha)
  unfold maxQ
  by_cases h : cmpQ p a > 0
  · rw [if_pos h]; have := c.1 h; grind
  · rw [if_neg h]; grind
/-- What holds of two numbers, one in each span. -/
structure RoundL (a b : Q) (sums less times hull : Sn) : Prop where
  add : ∃ x, (x, 0) = qaddR a b ∧ (true, 0) = inR sums x
  sub : ∃ y, (y, 0) = qsubR a b ∧ (true, 0) = inR less y
  mul : ∃ z, (z, 0) = qmulR a b ∧ (true, 0) = inR times z
  h1 : (true, 0) = inR hull a
  h2 : (true, 0) = inR hull b
structure SpansL (s t sums less times hull : Sn) (width : Q) : Prop where
  a1 : (s, 0) = implRS (stxt s)
  a2 : (sums, 0) = addSR s t
  a3 : (less, 0) = subSR s t
  a4 : (times, 0) = mulR s t
  a5 : (width, 0) = widR s
  w0 : ¬ width.p < 0
  a6 : (hull, 0) = hulR [s, t]
  a7 : true = okS s
  r0 : RoundL s.lo t.lo sums less times hull
  r1 : RoundL s.lo t.hi sums less times hull
  r2 : RoundL s.hi t.lo sums less times hull
  r3 : RoundL s.hi t.hi sums less times hull
theorem spans_law {s t : Sn} (hs : SmallS s) (ht : SmallS t) : ∃ sums less times hull width, SpansL s t sums less times hull width := by
  have os := hs.okS
  have ot := ht.okS
  have le1 := hs.le
  have le2 := ht.le
  obtain ⟨x0, e0, o0, v0⟩ := add_small hs.lo ht.lo
  obtain ⟨x1, e1, o1, v1⟩ := add_small hs.hi ht.hi
  obtain ⟨y0, f0, p0, u0⟩ := sub_small hs.lo ht.hi
  obtain ⟨y1, f1, p1, u1⟩ := sub_small hs.hi ht.lo
  obtain ⟨w, fw, ow, vw⟩ := sub_small hs.hi hs.lo
  obtain ⟨z0, g0, q0, t0⟩ := mul_small hs.lo ht.lo
  obtain ⟨z1, g1, q1, t1⟩ := mul_small hs.lo ht.hi
  obtain ⟨z2, g2, q2, t2⟩ := mul_small hs.hi ht.lo
  obtain ⟨z3, g3, q3, t3⟩ := mul_small hs.hi ht.hi
  have m1 := min_le q0 q1
  have n1 := max_le q0 q1
  have om1 := minQ_ok q0 q1
  have on1 := maxQ_ok q0 q1
  have m2 := min_le om1 q2
  have n2 := max_le on1 q2
  have om2 := minQ_ok om1 q2
  have on2 := maxQ_ok on1 q2
  have m3 := min_le om2 q3
  have n3 := max_le on2 q3
  have om3 := minQ_ok om2 q3
  have on3 := maxQ_ok on2 q3
  have hl1 := hs.lo.ok
  have hl2 := hs.hi.ok
  have hl3 := ht.lo.ok
  have hl4 := ht.hi.ok
  have cl := cmp_le (okQ_pos hl1) (okQ_pos hl3)
  have cg := cmp_ge (okQ_pos hl2) (okQ_pos hl4)
  have ol : okQ (lesQ s.lo t.lo) = true := lesQ_ok hl1 hl3
  have og : okQ (greQ s.hi t.hi) = true := greQ_ok hl2 hl4
  have vl : vq (lesQ s.lo t.lo) ≤ vq s.lo ∧ vq (lesQ s.lo t.lo) ≤ vq t.lo := by
    unfold lesQ
    by_cases h : cmpQ s.lo t.lo ≤ 0
    · rw [if_pos h]; have := cl.1 h; grind
    · rw [if_neg h]; grind
  have vg : vq s.hi ≤ vq (greQ s.hi t.hi) ∧ vq t.hi ≤ vq (greQ s.hi t.hi) := by
    unfold greQ
    by_cases h : 0 ≤ cmpQ s.hi t.hi
    · rw [if_pos h]; have := cg.1 h; grind
    · rw [if_neg h]; grind
  have key : ∀ (a b x y z : Q), SmallF a → SmallF b → vq s.lo ≤ vq a → vq a ≤ vq s.hi → vq t.lo ≤ vq b → vq b ≤ vq t.hi → mulO a b = some z → okQ z = true →
      vq (minQ (minQ (minQ z0 z1) z2) z3) ≤ vq z → vq z ≤ vq (maxQ (maxQ (maxQ z0 z1) z2) z3) →
      RoundL a b ⟨x0, x1⟩ ⟨y0, y1⟩ ⟨minQ (minQ (minQ z0 z1) z2) z3, maxQ (maxQ (maxQ z0 z1) z2) z3⟩ ⟨lesQ s.lo t.lo, greQ s.hi t.hi⟩ := by
    intro a b _ _ z ha hb k1 k2 k3 k4 hz oz k5 k6
    obtain ⟨x, ex, ox, vx⟩ := add_small ha hb
    obtain ⟨y, ey, oy, vy⟩ := sub_small ha hb
    refine ⟨⟨x, qaddR_some ha.ok hb.ok ex, in_yes o0 o1 ox ?_ ?_⟩, ⟨y, qsubR_some ha.ok hb.ok ey, in_yes p0 p1 oy ?_ ?_⟩, ⟨z, qmulR_some ha.ok hb.ok hz, in_yes om3 on3 oz k5 k6⟩, in_yes ol og ha.ok ?_ ?_, in_yes ol og hb.ok ?_ ?_⟩ <;> dsimp only <;> grind
  refine ⟨⟨x0, x1⟩, ⟨y0, y1⟩, ⟨minQ (minQ (minQ z0 z1) z2) z3, maxQ (maxQ (maxQ z0 z1) z2) z3⟩, ⟨lesQ s.lo t.lo, greQ s.hi t.hi⟩, w, ?_, ?_, ?_, ?_, ?_, ?_, ?_, os.symm, ?_, ?_, ?_, ?_⟩
  · rw [span_alike, specRS, readSV_txt os]; rfl
  · unfold addSR
    rw [os, ot]
    show _ = sumS s t
    exact (both_some (addO_mk e0) (addO_mk e1)).symm
  · unfold subSR
    rw [os, ot]
    show _ = difS s t
    exact (both_some (subO_mk f0) (subO_mk f1)).symm
  · rw [mulR_2 (by rw [os, ot]; rfl)]
    unfold timO
    rw [g0, g1, g2, g3]
    rfl
  · unfold widR
    rw [os, if_pos rfl]
    obtain ⟨h1, h2⟩ := mkO_both (subO_mk fw)
    simp [redQ, redC, h1, h2]
  · have h1 := okQ_pos ow
    have h2 := vq_mul h1
    have h3 := rat_pos h1
    intro hlt
    have h4 : (w.p : Rat) < 0 := by exact_mod_cast hlt
    rw [← h2] at h4
    have h5 : 0 ≤ vq w := by grind
    have := Rat.mul_nonneg h5 (by grind : (0 : Rat) ≤ (w.q : Rat))
    grind
  · rw [hulR_ok (s := s) (by unfold allS; simp [os, ot]) (by simp) rfl, hulF_self]
    rfl
  · exact key _ _ s.lo s.lo z0 hs.lo ht.lo (by grind) (by grind) (by grind) (by grind) g0 q0 (by grind) (by grind)
  · exact key _ _ s.lo s.lo z1 hs.lo ht.hi (by grind) (by grind) (by grind) (by grind) g1 q1 (by grind) (by grind)
  · exact key _ _ s.lo s.lo z2 hs.hi ht.lo (by grind) (by grind) (by grind) (by grind) g2 q2 (by grind) (by grind)
  · exact key _ _ s.lo s.lo z3 hs.hi ht.hi (by grind) (by grind) (by grind) (by grind) g3 q3 (by grind) (by grind)
theorem meet_law {s t : Sn} (hs : SmallS s) (ht : SmallS t) : (∃ m, (m, 6) = meeR s t ∧ (lessB s.hi t.lo = true ∨ lessB t.hi s.lo = true)) ∨ (∃ m, (m, 0) = meeR s t ∧ false = lessB m.lo s.lo ∧ false = lessB m.lo t.lo ∧ false = lessB s.hi m.hi ∧ false = lessB t.hi m.hi) := by
  have os := hs.okS
  have ot := ht.okS
  have le1 := hs.le
  have le2 := ht.le
  have hl1 := hs.lo.ok
  have hl2 := hs.hi.ok
  have hl3 := ht.lo.ok
  have hl4 := ht.hi.ok
  have cg := cmp_ge (okQ_pos hl1) (okQ_pos hl3)
  have cl := cmp_le (okQ_pos hl2) (okQ_pos hl4)
  have og : okQ (greQ s.lo t.lo) = true := greQ_ok hl1 hl3
  have ol : okQ (lesQ s.hi t.hi) = true := lesQ_ok hl2 hl4
  have vg : vq s.lo ≤ vq (greQ s.lo t.lo) ∧ vq t.lo ≤ vq (greQ s.lo t.lo) ∧ (greQ s.lo t.lo = s.lo ∨ greQ s.lo t.lo = t.lo) := by
    unfold greQ
    by_cases h : 0 ≤ cmpQ s.lo t.lo
    · rw [if_pos h]; have := cg.1 h; grind
    · rw [if_neg h]; grind
  have vl : vq (lesQ s.hi t.hi) ≤ vq s.hi ∧ vq (lesQ s.hi t.hi) ≤ vq t.hi ∧ (lesQ s.hi t.hi = s.hi ∨ lesQ s.hi t.hi = t.hi) := by
    unfold lesQ
    by_cases h : cmpQ s.hi t.hi ≤ 0
    · rw [if_pos h]; have := cl.1 h; grind
    · rw [if_neg h]; grind
  have cm := cmp_le (okQ_pos og) (okQ_pos ol)
  unfold meeR
  rw [grd_yes (by rw [os, ot]; rfl)]
  by_cases h : cmpQ (meeS s t).lo (meeS s t).hi ≤ 0
  · right
    refine ⟨meeS s t, by rw [grd_yes (decide_eq_true h)], (less_f og hl1 (by grind)).symm, (less_f og hl3 (by grind)).symm, (less_f hl2 ol (by grind)).symm, (less_f hl4 ol (by grind)).symm⟩
  · left
    refine ⟨_, by rw [grd_no (decide_eq_false h)], ?_⟩
    have h' : vq (lesQ s.hi t.hi) < vq (greQ s.lo t.lo) := by
      have : ¬ vq (greQ s.lo t.lo) ≤ vq (lesQ s.hi t.hi) := fun k => h (cm.2 k)
      grind
    rcases vg.2.2 with e1 | e1 <;> rcases vl.2.2 with e2 | e2
    · exfalso; rw [e1, e2] at h'; grind
    · right
      rw [e1, e2] at h'
      exact less_t hl4 hl1 h'
    · left
      rw [e1, e2] at h'
      exact less_t hl2 hl3 h'
    · exfalso; rw [e1, e2] at h'; grind
theorem around_law {a : Q} (ha : SmallF a) {v : Int} (v0 : 0 ≤ v) (v9 : v < 9) : ∃ m w, (m, 0) = aroR a ⟨1 + v, 11⟩ ∧ (w, 0) = widR m ∧ (w, 0) = qmulR ⟨1 + v, 11⟩ ⟨2, 1⟩ := by
  have ob : SmallF ⟨1 + v, 11⟩ := by
    refine ⟨?_, by show (1 + v).natAbs ≤ 60; omega, by show (11 : Int) ≤ 12; omega⟩
    have : v = 0 ∨ v = 1 ∨ v = 2 ∨ v = 3 ∨ v = 4 ∨ v = 5 ∨ v = 6 ∨ v = 7 ∨ v = 8 := by omega
    rcases this with rfl | rfl | rfl | rfl | rfl | rfl | rfl | rfl | rfl <;> decide
  have o2 : SmallF ⟨2, 1⟩ := ⟨by decide, by decide, by decide⟩
  obtain ⟨x, ex, ox, vx⟩ := sub_small ha ob
  obtain ⟨y, ey, oy, vy⟩ := add_small ha ob
  obtain ⟨d, ed, od, vd⟩ := mul_small ob o2
  have hb : 0 ≤ vq ⟨1 + v, 11⟩ := by
    have h1 := okQ_pos ob.ok
    have h2 := vq_mul h1
    have h3 := rat_pos h1
    have h4 : (0 : Rat) ≤ ((1 + v : Int) : Rat) := by exact_mod_cast (by omega : (0 : Int) ≤ 1 + v)
    by_cases h : 0 ≤ vq ⟨1 + v, 11⟩
    · exact h
    · exfalso
      have h5 : vq ⟨1 + v, 11⟩ < 0 := by grind
      have h6 := Rat.mul_lt_mul_right (a := vq ⟨1 + v, 11⟩) (b := 0) h3
      grind
  have v2 : vq ⟨2, 1⟩ = 2 := by
    unfold vq
    show ((2 : Int) : Rat) / ((1 : Int) : Rat) = 2
    have h1 : ((2 : Int) : Rat) = 2 := rfl
    have h2 : ((1 : Int) : Rat) = 1 := rfl
    rw [h1, h2]
    grind
  rw [v2] at vd
  have os : okS ⟨x, y⟩ = true := okS_of ox oy (by grind)
  have hw : subO y x = some d := by
    rw [sub_def]
    refine mk_of (Int.mul_ne_zero (by have := okQ_pos oy; omega) (by have := okQ_pos ox; omega)) od ?_
    have n1 := rat_pos (okQ_pos oy)
    have n2 := rat_pos (okQ_pos ox)
    have e1 : vq d = vq y - vq x := by grind
    rw [e1]
    simp only [Rat.intCast_mul, Rat.intCast_sub]
    unfold vq
    grind
  refine ⟨⟨x, y⟩, d, ?_, ?_, qmulR_some ob.ok o2.ok ed⟩
  · unfold aroR
    rw [grd_yes (by rw [ha.ok, ob.ok]; rfl), grd_yes (by simp; omega)]
    exact (both_some (subO_mk ex) (addO_mk ey)).symm
  · unfold widR
    rw [os, if_pos rfl]
    obtain ⟨h1, h2⟩ := mkO_both (subO_mk hw)
    simp [redQ, redC, h1, h2]

end Go.Proofs.YtadliapkjijahaaGreatDoor
