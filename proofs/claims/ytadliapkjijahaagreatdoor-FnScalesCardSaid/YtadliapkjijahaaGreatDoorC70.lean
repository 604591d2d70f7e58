/- Fractions as rational numbers: what comparisons and the operations mean, and when the operations come to a fraction; plain, no condition. -/
import Derived.Test.YtadliapkjijahaaGreatDoorAb
import Derived.Test.YtadliapkjijahaaGreatDoorC1
import Derived.Test.YtadliapkjijahaaGreatDoorC2
import Derived.Test.YtadliapkjijahaaGreatDoorC3
import Derived.Test.YtadliapkjijahaaGreatDoorC4
import Derived.Test.YtadliapkjijahaaGreatDoorC5
import Derived.Test.YtadliapkjijahaaGreatDoorCL
import Derived.Test.YtadliapkjijahaaGreatDoorC6
import Derived.Test.YtadliapkjijahaaGreatDoorC7
import Derived.Test.YtadliapkjijahaaGreatDoorC8
import Derived.Test.YtadliapkjijahaaGreatDoorC9
import Derived.Test.YtadliapkjijahaaGreatDoorCO
import Derived.Test.YtadliapkjijahaaGreatDoorC10
import Derived.Test.YtadliapkjijahaaGreatDoorProg
set_option linter.unusedVariables false
set_option linter.unusedSimpArgs false
namespace Go.Proofs.YtadliapkjijahaaGreatDoor
open Ab

/-! values of fractions, as rational numbers -/
def vq (a : Q) : Rat := (a.p : Rat) / (a.q : Rat)
theorem rat_pos {n : Int} (h : 0 < n) : (0 : Rat) < (n : Rat) := by exact_mod_cast h
theorem rat_ne {n : Int} (h : n ≠ 0) : (n : Rat) ≠ 0 := by exact_mod_cast h
theorem okQ_pos {a : Q} (h : okQ a = true) : 0 < a.q := by have := (okQ_iff.1 h).1; omega
theorem vq_mul {a : Q} (h : 0 < a.q) : vq a * (a.q : Rat) = (a.p : Rat) := by
  have := rat_pos (n := a.q) (by omega)
  unfold vq
  grind
theorem vq_lt {a b : Q} (ha : 0 < a.q) (hb : 0 < b.q) : vq a < vq b ↔ a.p * b.q < b.p * a.q := by
  have h1 := vq_mul ha
  have h2 := vq_mul hb
  have kab : (0 : Rat) < a.q * b.q := Rat.mul_pos (rat_pos ha) (rat_pos hb)
  rw [← Rat.mul_lt_mul_right kab, show vq a * ((a.q : Rat) * b.q) = (vq a * a.q) * b.q by grind, show vq b * ((a.q : Rat) * b.q) = (vq b * b.q) * a.q by grind, h1, h2]
  exact_mod_cast Iff.rfl
theorem cmp_lt {a b : Q} (ha : 0 < a.q) (hb : 0 < b.q) : cmpQ a b < 0 ↔ vq a < vq b := by
  rw [vq_lt ha hb]
  unfold cmpQ
  split
  · simp_all
  · split <;> simp_all
theorem cmp_gt {a b : Q} (ha : 0 < a.q) (hb : 0 < b.q) : 0 < cmpQ a b ↔ vq b < vq a := by
  rw [vq_lt hb ha]
  unfold cmpQ
  split
  · simp_all
    omega
  · split <;> simp_all
theorem cmp_le {a b : Q} (ha : 0 < a.q) (hb : 0 < b.q) : cmpQ a b ≤ 0 ↔ vq a ≤ vq b := by
  have := cmp_gt ha hb
  grind
theorem cmp_ge {a b : Q} (ha : 0 < a.q) (hb : 0 < b.q) : 0 ≤ cmpQ a b ↔ vq b ≤ vq a := by
  have := cmp_lt ha hb
  grind
theorem vq_inj {a b : Q} (ha : okQ a = true) (hb : okQ b = true) (h : vq a = vq b) : a = b := by
  have h1 := cmp_le (okQ_pos ha) (okQ_pos hb)
  have h2 := cmp_ge (okQ_pos ha) (okQ_pos hb)
  exact cmp_zero ha hb (by have := h1.2 (by grind); have := h2.2 (by grind); omega)
theorem vq_tdiv {p q : Int} {g : Nat} (h : (g : Int) ∣ p) (k : (g : Int) ∣ q) (hq : q ≠ 0) : vq ⟨p.tdiv g, q.tdiv g⟩ = (p : Rat) / (q : Rat) := by
  obtain ⟨a, rfl⟩ := h
  obtain ⟨b, rfl⟩ := k
  have hg : g ≠ 0 := fun h => by subst h; simp at hq
  rw [Int.mul_tdiv_cancel_left _ (by omega), Int.mul_tdiv_cancel_left _ (by omega)]
  unfold vq
  have hb : b ≠ 0 := fun h => by subst h; simp at hq
  have h1 := rat_ne hb
  have h2 : (g : Rat) ≠ 0 := by exact_mod_cast hg
  simp only [Rat.intCast_mul, Rat.intCast_natCast]
  grind
theorem vq_nrm {p q : Int} (hq : q ≠ 0) : vq (nrm p q) = (p : Rat) / (q : Rat) := by
  unfold nrm
  split
  · rw [vq_tdiv (Int.dvd_neg.2 (Int.gcd_dvd_left ..)) (Int.dvd_neg.2 (Int.gcd_dvd_right ..)) (by omega)]
    have := rat_ne hq
    simp only [Rat.intCast_neg]
    grind
  · exact vq_tdiv (Int.gcd_dvd_left ..) (Int.gcd_dvd_right ..) hq
theorem vq_mk {p q : Int} {a : Q} (hq : q ≠ 0) (h : mkO (p, q) = some a) : vq a = (p : Rat) / (q : Rat) := by
  unfold mkO at h
  split at h
  · cases h
    exact vq_nrm hq
  · cases h
/-- Small numbers make a fraction. -/
theorem okR_small {p q : Int} (hq : q ≠ 0) (h1 : p.natAbs ≤ 1000000000) (h2 : q.natAbs ≤ 1000000000) : okR p q = true := by
  unfold okR
  have hg : 0 < Int.gcd p q := Int.gcd_pos_of_ne_zero_right p hq
  have hgz : (Int.gcd p q : Int) ≠ 0 := by omega
  have hl : ∀ (x : Int) (g : Nat), (x.tdiv g).natAbs ≤ x.natAbs := fun x g => by rw [Int.natAbs_tdiv]; exact Nat.div_le_self _ _
  have key : ∀ (x y : Int), Int.gcd x y = Int.gcd p q → x.natAbs ≤ 1000000000 → y.natAbs ≤ 1000000000 → 0 < y → okQ ⟨x.tdiv (Int.gcd p q), y.tdiv (Int.gcd p q)⟩ = true := fun x y e hx hy hp => by
    have g1 : (Int.gcd p q : Int) ∣ x := by rw [← e]; exact Int.gcd_dvd_left ..
    have g2 : (Int.gcd p q : Int) ∣ y := by rw [← e]; exact Int.gcd_dvd_right ..
    have k1 := hl x (Int.gcd p q)
    have k2 := hl y (Int.gcd p q)
    have k3 : Int.gcd (x.tdiv (Int.gcd p q)) (y.tdiv (Int.gcd p q)) = 1 := by
      obtain ⟨a, ha⟩ := g1
      obtain ⟨b, hb⟩ := g2
      rw [ha, hb, Int.mul_tdiv_cancel_left _ hgz, Int.mul_tdiv_cancel_left _ hgz]
      rw [ha, hb, Int.gcd_mul_left] at e
      have e' : Int.gcd p q * Int.gcd a b = Int.gcd p q * 1 := by simpa using e
      exact Nat.eq_of_mul_eq_mul_left hg e'
    have k4 : 0 < y.tdiv (Int.gcd p q) := by
      obtain ⟨b, hb⟩ := g2
      rw [hb, Int.mul_tdiv_cancel_left _ hgz]
      rw [hb] at hp
      exact Int.pos_of_mul_pos_right hp (by omega)
    rw [okQ_iff]
    dsimp only
    omega
  unfold nrm
  split
  · exact key (-p) (-q) (by rw [Int.neg_gcd, Int.gcd_neg]) (by omega) (by omega) (by omega)
  · exact key p q rfl h1 h2 (by omega)
theorem mk_small {p q : Int} (hq : q ≠ 0) (h1 : p.natAbs ≤ 1000000000) (h2 : q.natAbs ≤ 1000000000) : ∃ a, mkO (p, q) = some a ∧ okQ a = true ∧ vq a = (p : Rat) / (q : Rat) ∧ a.p.natAbs ≤ p.natAbs ∧ a.q.natAbs ≤ q.natAbs := by
  have h := okR_small hq h1 h2
  have e : mkO (p, q) = some (nrm p q) := by unfold mkO; rw [if_pos h]
  have hl : ∀ (x : Int) (g : Nat), (x.tdiv g).natAbs ≤ x.natAbs := fun x g => by rw [Int.natAbs_tdiv]; exact Nat.div_le_self _ _
  refine ⟨_, e, mkO_ok e, vq_nrm hq, ?_⟩
  have k1 := hl p (Int.gcd p q)
  have k2 := hl q (Int.gcd p q)
  have k3 := hl (-p) (Int.gcd p q)
  have k4 := hl (-q) (Int.gcd p q)
  unfold nrm
  split <;> dsimp only <;> omega
theorem nrm_red {p q : Int} (hq : q ≠ 0) : 0 < (nrm p q).q ∧ Int.gcd (nrm p q).p (nrm p q).q = 1 := by
  have hg : 0 < Int.gcd p q := Int.gcd_pos_of_ne_zero_right p hq
  have hgz : (Int.gcd p q : Int) ≠ 0 := by omega
  have key : ∀ (x y : Int), Int.gcd x y = Int.gcd p q → 0 < y → 0 < y.tdiv (Int.gcd p q) ∧ Int.gcd (x.tdiv (Int.gcd p q)) (y.tdiv (Int.gcd p q)) = 1 := fun x y e hp => by
    have g1 : (Int.gcd p q : Int) ∣ x := by rw [← e]; exact Int.gcd_dvd_left ..
    have g2 : (Int.gcd p q : Int) ∣ y := by rw [← e]; exact Int.gcd_dvd_right ..
    obtain ⟨a, ha⟩ := g1
    obtain ⟨b, hb⟩ := g2
    constructor
    · rw [hb, Int.mul_tdiv_cancel_left _ hgz]
      rw [hb] at hp
      exact Int.pos_of_mul_pos_right hp (by omega)
    · rw [ha, hb, Int.mul_tdiv_cancel_left _ hgz, Int.mul_tdiv_cancel_left _ hgz]
      rw [ha, hb, Int.gcd_mul_left] at e
      have e' : Int.gcd p q * Int.gcd a b = Int.gcd p q * 1 := by simpa using e
      exact Nat.eq_of_mul_eq_mul_left hg e'
  unfold nrm
  split
  · exact key (-p) (-q) (by rw [Int.neg_gcd, Int.gcd_neg]) (by omega)
  · exact key p q rfl (by omega)
theorem red_inj {a b : Q} (ha : 0 < a.q) (hb : 0 < b.q) (ga : Int.gcd a.p a.q = 1) (gb : Int.gcd b.p b.q = 1) (h : vq a = vq b) : a = b := by
  have h1 := vq_mul ha
  have h2 := vq_mul hb
  have he : a.p * b.q = b.p * a.q := by
    have : (a.p : Rat) * (b.q : Rat) = (b.p : Rat) * (a.q : Rat) := by grind
    exact_mod_cast this
  have hn : a.p.natAbs * b.q.natAbs = b.p.natAbs * a.q.natAbs := by rw [← Int.natAbs_mul, ← Int.natAbs_mul, he]
  have hq := nat_eq_of_cross hn ga gb (by omega) (by omega)
  have hq' : a.q = b.q := by omega
  have hp : a.p = b.p := by
    rw [hq'] at he
    exact Int.eq_of_mul_eq_mul_right (by omega) he
  cases a
  cases b
  simp_all
/-- What is a fraction already comes out of two numbers of its value. -/
theorem mk_of {p q : Int} {a : Q} (hq : q ≠ 0) (ha : okQ a = true) (h : vq a = (p : Rat) / (q : Rat)) : mkO (p, q) = some a := by
  have hn := nrm_red (p := p) hq
  have hr : nrm p q = a := red_inj hn.1 (okQ_pos ha) hn.2 (okQ_iff.1 ha).2.2.2.2 (by rw [h, vq_nrm hq])
  unfold mkO okR
  rw [hr, if_pos ha]
/-! the operations -/
theorem add_def (a b : Q) : addO a b = mkO (a.p * b.q + b.p * a.q, a.q * b.q) := by unfold addO; rfl
theorem sub_def (a b : Q) : subO a b = mkO (a.p * b.q - b.p * a.q, a.q * b.q) := by unfold subO; rfl
theorem mul_def (a b : Q) : mulO a b = mkO (a.p * b.p, a.q * b.q) := by unfold mulO; rfl
theorem div_def {a b : Q} (h : b.p ≠ 0) : divO a b = mkO (a.p * b.q, a.q * b.p) := by unfold divO; rw [if_neg h]; rfl
theorem add_some {a b c : Q} (ha : okQ a = true) (hb : okQ b = true) (h : addO a b = some c) : vq c = vq a + vq b := by
  have h1 := okQ_pos ha
  have h2 := okQ_pos hb
  have k1 := vq_mul h1
  have k2 := vq_mul h2
  have n1 := rat_pos h1
  have n2 := rat_pos h2
  have h3 : a.q * b.q ≠ 0 := Int.mul_ne_zero (by omega) (by omega)
  rw [add_def] at h
  rw [vq_mk h3 h]
  simp only [Rat.intCast_mul, Rat.intCast_add]
  unfold vq
  grind
theorem sub_some {a b c : Q} (ha : okQ a = true) (hb : okQ b = true) (h : subO a b = some c) : vq c = vq a - vq b := by
  have h1 := okQ_pos ha
  have h2 := okQ_pos hb
  have n1 := rat_pos h1
  have n2 := rat_pos h2
  have h3 : a.q * b.q ≠ 0 := Int.mul_ne_zero (by omega) (by omega)
  rw [sub_def] at h
  rw [vq_mk h3 h]
  simp only [Rat.intCast_mul, Rat.intCast_sub]
  unfold vq
  grind
theorem mul_some {a b c : Q} (ha : okQ a = true) (hb : okQ b = true) (h : mulO a b = some c) : vq c = vq a * vq b := by
  have h1 := okQ_pos ha
  have h2 := okQ_pos hb
  have n1 := rat_pos h1
  have n2 := rat_pos h2
  have h3 : a.q * b.q ≠ 0 := Int.mul_ne_zero (by omega) (by omega)
  rw [mul_def] at h
  rw [vq_mk h3 h]
  simp only [Rat.intCast_mul]
  unfold vq
  grind
theorem div_some {a b c : Q} (ha : okQ a = true) (hb : okQ b = true) (hn : b.p ≠ 0) (h : divO a b = some c) : vq c = vq a / vq b := by
  have h1 := okQ_pos ha
  have h2 := okQ_pos hb
  have n1 := rat_pos h1
  have n2 := rat_pos h2
  have n3 := rat_ne hn
  have h3 : a.q * b.p ≠ 0 := Int.mul_ne_zero (by omega) hn
  rw [div_def hn] at h
  rw [vq_mk h3 h]
  simp only [Rat.intCast_mul]
  unfold vq
  grind
theorem nm_mul {x y : Int} {a b c : Nat} (h : x.natAbs ≤ a) (k : y.natAbs ≤ b) (hc : a * b ≤ c) : (x * y).natAbs ≤ c := by
  rw [Int.natAbs_mul]
  exact Nat.le_trans (Nat.mul_le_mul h k) hc

end Go.Proofs.YtadliapkjijahaaGreatDoor
