/- What the law on scales says, of scales with small parts; plain, condition: small parts. -/
import Derived.Test.YtadliapkjijahaaGreatDoorAb
import Derived.Test.YtadliapkjijahaaGreatDoorC1
import Derived.Test.YtadliapkjijahaaGreatDoorC2
import Derived.Test.YtadliapkjijahaaGreatDoorC3
import Derived.Test.YtadliapkjijahaaGreatDoorC4
import Derived.Test.YtadliapkjijahaaGreatDoorC5
import Derived.Test.YtadliapkjijahaaGreatDoorCL
import Derived.Test.YtadliapkjijahaaGreatDoorC6
import Derived.Test.YtadliapkjijahaaGreatDoorC7
import Derived.Test.YtadliapkjijahaaGreatDoorC8
import Derived.Test.YtadliapkjijahaaGreatDoorC9
import Derived.Test.YtadliapkjijahaaGreatDoorCO
import Derived.Test.YtadliapkjijahaaGreatDoorC10
import Derived.Test.YtadliapkjijahaaGreatDoorC12
import Derived.Test.YtadliapkjijahaaGreatDoorC13
import Derived.Test.YtadliapkjijahaaGreatDoorC14
import Derived.Test.YtadliapkjijahaaGreatDoorC15
import Derived.Test.YtadliapkjijahaaGreatDoorC16
import Derived.Test.YtadliapkjijahaaGreatDoorC17
import Derived.Test.YtadliapkjijahaaGreatDoorC24
import Derived.Test.YtadliapkjijahaaGreatDoorC25
import Derived.Test.YtadliapkjijahaaGreatDoorC30
import Derived.Test.YtadliapkjijahaaGreatDoorC31
import Derived.Test.YtadliapkjijahaaGreatDoorC33
import Derived.Test.YtadliapkjijahaaGreatDoorC34
import Derived.Test.YtadliapkjijahaaGreatDoorCN
import Derived.Test.YtadliapkjijahaaGreatDoorCK
import Derived.Test.YtadliapkjijahaaGreatDoorCG
import Derived.Test.YtadliapkjijahaaGreatDoorCF
import Derived.Test.YtadliapkjijahaaGreatDoorCJ
import Derived.Test.YtadliapkjijahaaGreatDoorCP
import Derived.Test.YtadliapkjijahaaGreatDoorCQ
import Derived.Test.YtadliapkjijahaaGreatDoorC50
import Derived.Test.YtadliapkjijahaaGreatDoorC52
import Derived.Test.YtadliapkjijahaaGreatDoorC53
import Derived.Test.YtadliapkjijahaaGreatDoorC54
import Derived.Test.YtadliapkjijahaaGreatDoorC55
import Derived.Test.YtadliapkjijahaaGreatDoorC56
import Derived.Test.YtadliapkjijahaaGreatDoorC60
import Derived.Test.YtadliapkjijahaaGreatDoorC62
import Derived.Test.YtadliapkjijahaaGreatDoorC70
import Derived.Test.YtadliapkjijahaaGreatDoorC72
import Derived.Test.YtadliapkjijahaaGreatDoorC76
import Derived.Test.YtadliapkjijahaaGreatDoorC77
import Derived.Test.YtadliapkjijahaaGreatDoorProg
set_option linter.unusedVariables false
set_option linter.unusedSimpArgs false
namespace Go.Proofs.YtadliapkjijahaaGreatDoor
open Ab

theorem okQ_w {n : Int} (h : -1000000000 ≤ n) (h' : n ≤ 1000000000) : okQ ⟨n, 1⟩ = true := by
  rw [okQ_iff]
  exact ⟨by show (1 : Int) ≤ 1; omega, by show (1 : Int) ≤ _; omega, h, h', by simp⟩
theorem vq_w (n : Int) : vq ⟨n, 1⟩ = (n : Rat) := by
  unfold vq
  show (n : Rat) / ((1 : Int) : Rat) = n
  have : ((1 : Int) : Rat) = 1 := rfl
  rw [this]
  grind
theorem size_val {a : Q} (h : 0 < a.q) : vq (sizQ a) = vq a ∧ 0 ≤ vq a ∨ vq (sizQ a) = - vq a ∧ vq a ≤ 0 := by
  have h1 := vq_mul h
  have h2 := rat_pos h
  by_cases hp : 0 ≤ a.p
  · left
    have e : sizQ a = a := by
      unfold sizQ
      obtain ⟨p, q⟩ := a
      dsimp only at hp ⊢
      rw [show (p.natAbs : Int) = p by omega]
    rw [e]
    refine ⟨rfl, ?_⟩
    have h3 : (0 : Rat) ≤ (a.p : Rat) := by exact_mod_cast hp
    rw [← h1] at h3
    by_cases h4 : 0 ≤ vq a
    · exact h4
    · exfalso
      have h5 := (Rat.mul_lt_mul_right (a := vq a) (b := 0) h2).2 (by grind)
      grind
  · right
    have e : vq (sizQ a) = - vq a := by
      unfold sizQ vq
      dsimp only
      rw [show (a.p.natAbs : Int) = -a.p by omega]
      simp only [Rat.intCast_neg]
      grind
    refine ⟨e, ?_⟩
    have h3 : (a.p : Rat) ≤ 0 := by exact_mod_cast (by omega : a.p ≤ 0)
    rw [← h1] at h3
    by_cases h4 : vq a ≤ 0
    · exact h4
    · exfalso
      have h5 := (Rat.mul_lt_mul_right (a := 0) (b := vq a) h2).2 (by grind)
      grind
theorem unit_pos {u : Q} (ou : okQ u = true) (p1 : 1 ≤ u.p) : 0 < vq u := by
  have h1 := vq_mul (okQ_pos ou)
  have h2 := rat_pos (okQ_pos ou)
  have h3 : (0 : Rat) < (u.p : Rat) := rat_pos (by omega)
  rw [← h1] at h3
  by_cases h4 : 0 < vq u
  · exact h4
  · exfalso
    by_cases h5 : vq u = 0
    · rw [h5] at h3; grind
    · have h6 := (Rat.mul_lt_mul_right (a := vq u) (b := 0) h2).2 (by grind)
      grind
theorem err_mark {u e : Q} (ou : okQ u = true) (p1 : 1 ≤ u.p) (p6 : u.p ≤ 6) (q4 : u.q ≤ 4) (he : SmallE u e) {k : Nat} (hk : k ≤ 60) : ∃ m, markO u k e = some m ∧ okQ m = true ∧ vq m = (k : Rat) * vq u + vq e := by
  have hu := okQ_pos ou
  have hq := okQ_pos he.ok
  have h24 := he.p
  have h64 := he.q
  have wk := okQ_w (n := (k : Int)) (by omega) (by omega)
  have b1 : ((k : Int) * u.p).natAbs ≤ 360 := nm_mul (a := 60) (b := 6) (by omega) (by omega) (by omega)
  obtain ⟨a, ea, oa, va, a1, a2⟩ := mk_small (p := (k : Int) * u.p) (q := 1 * u.q) (by omega) (by omega) (by omega)
  have ea' : mulO ⟨(k : Int), 1⟩ u = some a := by rw [mul_def]; exact ea
  have va' := mul_some wk ou ea'
  rw [vq_w] at va'
  have ha := okQ_pos oa
  have b2 : (a.p * e.q).natAbs ≤ 360 * 64 := nm_mul (a := 360) (b := 64) (by omega) (by omega) (by omega)
  have b3 : (e.p * a.q).natAbs ≤ 24 * 4 := nm_mul (a := 24) (b := 4) (by omega) (by omega) (by omega)
  have b4 : (a.q * e.q).natAbs ≤ 4 * 64 := nm_mul (a := 4) (b := 64) (by omega) (by omega) (by omega)
  obtain ⟨m, em, om, vm, _⟩ := mk_small (p := a.p * e.q + e.p * a.q) (q := a.q * e.q) (Int.mul_ne_zero (by omega) (by omega)) (by omega) (by omega)
  have em' : addO a e = some m := by rw [add_def]; exact em
  refine ⟨m, ?_, om, ?_⟩
  · unfold markO
    rw [ea']
    exact em'
  · rw [add_some oa he.ok em', va']
    rfl
theorem err_sm {u e : Q} (ou : okQ u = true) (p1 : 1 ≤ u.p) (he : SmallE u e) : smE u e = true := by
  obtain ⟨j, j1, j2, hv⟩ := he.val
  have hu := okQ_pos ou
  have hq := okQ_pos he.ok
  have hx := unit_pos ou p1
  have hs := size_val hq
  have hj1 : ((-4 : Int) : Rat) ≤ (j : Rat) := by exact_mod_cast j1
  have hj : -4 ≤ (j : Rat) ∧ (j : Rat) ≤ 4 := ⟨hj1, by exact_mod_cast j2⟩
  have m1 : (j : Rat) * vq u ≤ 4 * vq u := Rat.mul_le_mul_of_nonneg_right hj.2 (by grind)
  have m2 : (-4) * vq u ≤ (j : Rat) * vq u := Rat.mul_le_mul_of_nonneg_right hj.1 (by grind)
  have hle : 4 * vq (sizQ e) ≤ vq u := by grind
  have os := okQ_size he.ok
  have k1 := vq_mul (a := sizQ e) (okQ_pos os)
  have k2 := vq_mul hu
  have r1 := rat_pos hu
  have r2 := rat_pos hq
  have e1 : (sizQ e).q = e.q := rfl
  have e2 : (sizQ e).p = (e.p.natAbs : Int) := rfl
  rw [e1, e2] at k1
  unfold smE
  rw [Bool.not_eq_true', decide_eq_false_iff_not]
  intro hgt
  have h1 : ((u.p * e.q : Int) : Rat) < ((4 * (e.p.natAbs : Int) * u.q : Int) : Rat) := by exact_mod_cast hgt
  simp only [Rat.intCast_mul] at h1
  rw [← k1, ← k2] at h1
  have h4 : ((4 : Int) : Rat) = 4 := rfl
  rw [h4] at h1
  have h5 : (0 : Rat) ≤ (u.q : Rat) * (e.q : Rat) := Rat.mul_nonneg (by grind) (by grind)
  have h6 := Rat.mul_le_mul_of_nonneg_right hle h5
  grind
theorem okEs_of {u : Q} (ou : okQ u = true) (p1 : 1 ≤ u.p) (p6 : u.p ≤ 6) (q4 : u.q ≤ 4) : ∀ (l : List Q) (k : Nat), (∀ e ∈ l, SmallE u e) → k + l.length ≤ 60 → okEs u k l = true
  | [], _, _, _ => rfl
  | e :: r, k, h, hk => by
    have he := h e List.mem_cons_self
    rw [List.length_cons] at hk
    obtain ⟨m, hm, _⟩ := err_mark ou p1 p6 q4 he (k := k) (by omega)
    unfold okEs
    rw [okEs_of ou p1 p6 q4 r (k + 1) (fun x hx => h x (List.mem_cons_of_mem _ hx)) (by omega), Bool.and_true]
    unfold okE
    rw [he.ok, err_sm ou p1 he, hm]
    rfl
theorem SmallC.okC {u : Q} {l : List Q} (h : SmallC u l) : okC u l = true := by
  unfold Go.Proofs.YtadliapkjijahaaGreatDoor.okC
  rw [okEs_of h.ok h.p1 h.p6 h.q4 l 0 h.errs (by have := h.len; omega), within_iff.2 ⟨by have := h.len2; omega, by have := h.len; omega⟩]
  have hq := okQ_pos h.ok
  have h1 := h.p1
  have h6 := h.p6
  have hc : cmpQ u ⟨1000, 1⟩ ≤ 0 := by
    unfold cmpQ
    rw [if_pos (by show u.p * 1 < 1000 * u.q; omega)]
    decide
  unfold witQ
  rw [h.ok]
  simp [hc]
  omega
theorem sub_self' {e : Q} (h : okQ e = true) : subO e e = some ⟨0, 1⟩ := by
  have h1 := okQ_pos h
  rw [sub_def]
  refine mk_of (Int.mul_ne_zero (by omega) (by omega)) (by decide) ?_
  rw [Int.sub_self, vq_w]
  have : ((0 : Int) : Rat) = 0 := rfl
  rw [this]
  grind
theorem mul_one' {e : Q} (h : okQ e = true) : mulO e ⟨1, 1⟩ = some e := by
  have h1 := okQ_pos h
  rw [mul_def]
  refine mk_of (Int.mul_ne_zero (by omega) (by decide)) h ?_
  show vq e = ((e.p * 1 : Int) : Rat) / ((e.q * 1 : Int) : Rat)
  rw [Int.mul_one, Int.mul_one]
  rfl
theorem accO_all : ∀ (l : List Q) (os : List (Option Q)) (a : List Q), os = l.map some → accO a os = some (a ++ l)
  | [], _, a, h => by subst h; simp [accO]
  | x :: r, _, a, h => by
    subst h
    rw [List.map_cons, accO, Option.bind_some, accO_all r _ (a ++ [x]) rfl]
    simp
def zerosL (l : List Q) : List Q := l.map fun _ => ⟨0, 1⟩
theorem zeros_small {u : Q} {l : List Q} (h : SmallC u l) : SmallC u (zerosL l) := by
  refine ⟨h.ok, h.p1, h.p6, h.q4, fun e he => ?_, by have := h.len2; simp [zerosL]; omega, by have := h.len; simp [zerosL]; omega⟩
  unfold zerosL at he
  obtain ⟨_, _, rfl⟩ := List.mem_map.1 he
  exact zero_small u
theorem allOk_of {l : List Q} (h : ∀ e ∈ l, okQ e = true) : allOk l = true := by unfold allOk; rw [List.all_eq_true]; exact h
theorem cor_law {u : Q} {l : List Q} (h : SmallC u l) : corR u l l = ((u, zerosL l), 0) := by
  refine corR_5 (by rw [h.okC, allOk_of fun e he => (h.errs e he).ok]; rfl) rfl ?_ (zeros_small h).okC
  unfold corO
  rw [accO_all (zerosL l) _ [] ?_, List.nil_append]
  unfold subsO zerosL
  rw [List.map_map]
  have : ∀ (r : List Q), (∀ e ∈ r, okQ e = true) → List.zipWith subO r r = r.map ((some : Q → Option Q) ∘ fun _ => ⟨0, 1⟩) := by
    intro r
    induction r with
    | nil => intro _; rfl
    | cons x r ih =>
      intro hr
      rw [List.zipWith_cons_cons, List.map_cons, sub_self' (hr x List.mem_cons_self), ih fun e he => hr e (List.mem_cons_of_mem _ he)]
      rfl
  exact this l fun e he => (h.errs e he).ok
theorem war_law {u : Q} {l : List Q} (h : SmallC u l) : warR u l ⟨0, 1⟩ = ((u, l), 0) := by
  have hb : bigB ⟨0, 1⟩ = false := by decide
  have h1 : addO O1 ⟨0, 1⟩ = some ⟨1, 1⟩ := by rw [add_def]; exact mk_of (by decide) (by decide) (by rfl)
  have h2 : mulsO l ⟨1, 1⟩ = l.map some := by
    unfold mulsO
    exact List.map_congr_left fun e he => mul_one' (h.errs e he).ok
  unfold warR
  rw [h.okC, hb]
  have h3 : warO u l ⟨0, 1⟩ = some (u, l) := by
    unfold warO
    rw [h1, Option.bind_some, mul_one' h.ok, Option.bind_some, h2, accO_all l _ [] rfl]
    unfold fitO
    rw [Option.bind_some, List.nil_append, if_pos h.okC]
  rw [h3]
  rfl
theorem read_law {u : Q} {l : List Q} (h : SmallC u l) : readC (ctxt u l) = some (u, l) := by
  unfold readC
  rw [ctxt_line h.okC, splS_line, rdAll_map fun q hq => by
    rcases List.mem_cons.1 hq with rfl | hq
    · exact h.ok
    · exact (h.errs q hq).ok]
  show (if okC u l then some (u, l) else none) = some (u, l)
  rw [if_pos h.okC]
theorem ctxt_len {u : Q} {l : List Q} (h : SmallC u l) : (strB (ctxt u l)).size ≤ 1048576 := by
  rw [strB_size, ctxt_line h.okC]
  have := lineL_len (u := u) (l := l) h.ok fun a ha => (h.errs a ha).ok
  have := h.len
  omega
theorem wor_all : ∀ (l : List Q) (a : Q), okQ a = true → (∀ e ∈ l, okQ e = true) → okQ (worQ a l) = true ∧ vq a ≤ vq (worQ a l) ∧ (∀ e ∈ l, vq (sizQ e) ≤ vq (worQ a l)) ∧ (worQ a l = a ∨ ∃ e ∈ l, sizQ e = worQ a l)
  | [], a, ha, _ => ⟨ha, by unfold worQ; grind, by simp, .inl rfl⟩
  | e :: r, a, ha, h => by
    have he := h e List.mem_cons_self
    have os := okQ_size he
    have og : okQ (greQ a (sizQ e)) = true := greQ_ok ha os
    have c := cmp_ge (okQ_pos ha) (okQ_pos os)
    have vg : vq a ≤ vq (greQ a (sizQ e)) ∧ vq (sizQ e) ≤ vq (greQ a (sizQ e)) ∧ (greQ a (sizQ e) = a ∨ greQ a (sizQ e) = sizQ e) := by
      unfold greQ
      by_cases h : 0 ≤ cmpQ a (sizQ e)
      · rw [if_pos h]; have := c.1 h; exact ⟨by grind, by grind, .inl rfl⟩
      · rw [if_neg h]
        have : ¬ vq (sizQ e) ≤ vq a := fun k => h (c.2 k)
        exact ⟨by grind, by grind, .inr rfl⟩
    obtain ⟨k1, k2, k3, k4⟩ := wor_all r (greQ a (sizQ e)) og fun x hx => h x (List.mem_cons_of_mem _ hx)
    rw [worQ]
    refine ⟨k1, by grind, fun x hx => ?_, ?_⟩
    · rcases List.mem_cons.1 hx with rfl | hx
      · grind
      · exact k3 x hx
    · rcases k4 with k4 | ⟨x, hx, k4⟩
      · rcases vg.2.2 with g | g
        · exact .inl (k4.trans g)
        · exact .inr ⟨e, List.mem_cons_self, (k4.trans g).symm⟩
      · exact .inr ⟨x, List.mem_cons_of_mem _ hx, k4⟩
theorem worst_law {u : Q} {l : List Q} (h : SmallC u l) : ∃ w, (w, 0) = worstR u l ∧ (∀ e ∈ l, false = lessB w (sizQ e)) ∧ ∃ e ∈ l, sizQ e = w := by
  have hok : ∀ e ∈ l, okQ e = true := fun e he => (h.errs e he).ok
  obtain ⟨k1, k2, k3, k4⟩ := wor_all l Q1 (by decide) hok
  refine ⟨worQ Q1 l, ?_, fun e he => (less_f k1 (okQ_size (hok e he)) (k3 e he)).symm, ?_⟩
  · unfold worstR
    rw [grd_yes h.okC]
  · rcases k4 with k4 | k4
    · have hl := h.len2
      obtain ⟨e, he⟩ : ∃ e, e ∈ l := by
        cases l with
        | nil => simp at hl
        | cons x r => exact ⟨x, List.mem_cons_self⟩
      refine ⟨e, he, ?_⟩
      have hz := k3 e he
      rw [k4] at hz ⊢
      have hs := size_val (okQ_pos (hok e he))
      have v0 : vq Q1 = 0 := by rw [vq_w]; rfl
      exact vq_inj (okQ_size (hok e he)) (by decide) (by grind)
    · exact k4
theorem wor_zero : ∀ (l : List Q), (∀ e ∈ l, e = ⟨0, 1⟩) → worQ Q1 l = Q1
  | [], _ => rfl
  | e :: r, h => by
    rw [worQ, h e List.mem_cons_self]
    have : greQ Q1 (sizQ ⟨0, 1⟩) = Q1 := by decide
    rw [this]
    exact wor_zero r fun x hx => h x (List.mem_cons_of_mem _ hx)
theorem none_law {u : Q} {l : List Q} (h : SmallC u l) : ((⟨0, 1⟩ : Q), (0 : Int)) = worstR u (zerosL l) := by
  unfold worstR
  rw [grd_yes (zeros_small h).okC, wor_zero]
  intro e he
  unfold zerosL at he
  obtain ⟨_, _, rfl⟩ := List.mem_map.1 he
  rfl
theorem make_law {v : Int} (v0 : 0 ≤ v) (v1 : v < 21) : ∃ due, (due, 0) = makeR (v - 10) 100 ∧ okQ due = true := by
  obtain ⟨o1, _, _, _, e1⟩ := red_small' (p := v - 10) (q := 100) (by omega) (by omega) (by omega)
  refine ⟨redQ (v - 10) 100, ?_, o1⟩
  unfold makeR
  rw [within_iff.2 ⟨by omega, by omega⟩, within_iff.2 ⟨by omega, by omega⟩]
  simp [e1]
theorem mark_law {u : Q} {l : List Q} (h : SmallC u l) {k : Nat} {e : Q} (hk : l[k]? = some e) : ∃ a b, (a, 0) = markR u l k ∧ (b, 0) = markR u (zerosL l) k ∧ (e, 0) = qsubR a b := by
  have he := h.errs e (List.mem_of_getElem? hk)
  have hlt := (List.getElem?_eq_some_iff.1 hk).1
  have hlen := h.len
  obtain ⟨a, ea, oa, va⟩ := err_mark h.ok h.p1 h.p6 h.q4 he (k := k) (by omega)
  obtain ⟨b, eb, ob, vb⟩ := err_mark h.ok h.p1 h.p6 h.q4 (zero_small u) (k := k) (by omega)
  have v0 : vq ⟨0, 1⟩ = 0 := by rw [vq_w]; rfl
  have hz : (zerosL l)[k]? = some ⟨0, 1⟩ := by unfold zerosL; rw [List.getElem?_map, hk]; rfl
  have hzl : (zerosL l).length = l.length := by simp [zerosL]
  have e1 : subO a b = some e := by
    rw [sub_def]
    refine mk_of (Int.mul_ne_zero (by have := okQ_pos oa; omega) (by have := okQ_pos ob; omega)) he.ok ?_
    have n1 := rat_pos (okQ_pos oa)
    have n2 := rat_pos (okQ_pos ob)
    have e2 : vq e = vq a - vq b := by grind
    rw [e2]
    simp only [Rat.intCast_mul, Rat.intCast_sub]
    unfold vq
    grind
  refine ⟨a, b, ?_, ?_, qsubR_some oa ob e1⟩
  · unfold markR
    rw [grd_yes h.okC, grd_yes (within_iff.2 ⟨by omega, by omega⟩), Int.toNat_natCast, getD_at hk, ea]
    rfl
  · unfold markR
    rw [grd_yes (zeros_small h).okC, grd_yes (within_iff.2 ⟨by omega, by rw [hzl]; omega⟩), Int.toNat_natCast, getD_at hz, eb]
    rfl

end Go.Proofs.YtadliapkjijahaaGreatDoor
