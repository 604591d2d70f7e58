/- Contracts of both packages' functions on marks, worst errors and least counts, for all scales that lie in memory; conditions: the bounds that each names. -/
import Derived.Test.YtlfhjmnaommckaaAb
import Derived.Test.YtlfhjmnaommckaaC1
import Derived.Test.YtlfhjmnaommckaaC2
import Derived.Test.YtlfhjmnaommckaaC3
import Derived.Test.YtlfhjmnaommckaaC4
import Derived.Test.YtlfhjmnaommckaaC5
import Derived.Test.YtlfhjmnaommckaaCL
import Derived.Test.YtlfhjmnaommckaaC6
import Derived.Test.YtlfhjmnaommckaaC7
import Derived.Test.YtlfhjmnaommckaaC8
import Derived.Test.YtlfhjmnaommckaaC9
import Derived.Test.YtlfhjmnaommckaaCO
import Derived.Test.YtlfhjmnaommckaaC12
import Derived.Test.YtlfhjmnaommckaaC14
import Derived.Test.YtlfhjmnaommckaaC15
import Derived.Test.YtlfhjmnaommckaaProg
set_option linter.unusedVariables false
set_option linter.unusedSimpArgs false
namespace Go.Proofs.Ytlfhjmnaommckaa
open Ab

theorem drop_at' {α : Type} {l : List α} {k : Nat} {x : α} (h : l[k]? = some x) : l.drop k = x :: l.drop (k + 1) := by
  obtain ⟨hl, he⟩ := List.getElem?_eq_some_iff.1 h
  rw [List.drop_eq_getElem_cons hl, he]
def AllRow' (s : SlV) (l : List Q) (E : Ext) : Prop := FracsAt s l E ∧ allOk l = true
abbrev Q1 : Q := ⟨0, 1⟩
/-- A mark that is asked for: its number, and its error. -/
def MarkIn (s : SlV) (u : Q) (x : Int) (l : List Q) (E : Ext) : Prop := FracsAt s l E ∧ okQ u = true ∧ ∃ (k : Nat) (e : Q), x = (k : Int) ∧ k ≤ 60 ∧ l[k]? = some e ∧ okQ e = true
theorem getD_at {l : List Q} {k : Nat} {e : Q} (h : l[k]? = some e) : l.getD k Q0 = e := by rw [List.getD_eq_getElem?_getD, h]; rfl
abbrev smkqSp : Sp := .hq sclL 70 I1 (fun s x (l : List Q) E => MarkIn s.errs s.unit x.1 l E) RQ (fun s x l => outO (markO s.unit x.1.toNat (l.getD x.1.toNat Q0)))
theorem smkq_ok : Sp.ok Try.prog 174 smkqSp := smarkq_ok
abbrev mkSp : Sp := .rf CI (fun x (l : List Q) E => MarkIn x.1.errs x.1.unit x.2.1 l E) (fun x l => (markT x.1.unit x.2.1.toNat (l.getD x.2.1.toNat Q0)).v)
set_option maxRecDepth 100000 in
theorem mk_ok : Sp.ok Try.prog 146 mkSp := by
  refine Sp.rf_ok (T := ⟨[(94, wholeSp), (136, tmulqSp), (135, taddqSp)], []⟩) follows eqok0 ⟨enters Try.func94 rfl rfl, num_ok, enters Try.func136 rfl rfl, tmulq_ok, enters Try.func135 rfl rfl, taddq_ok, trivial⟩ [(2, .take 0 (.take 1 (.take 2 (.take 4 (.take 5 (.take 7 (.take 8 (.take 9 (.take 10 (.take 11 (.alt 3 (.alt 6 (.alt 12 (.alt 13 (.done) (.last)) (.last)) (.last)) (.last))))))))))))] Try.func146 rfl (by kernel_rfl) _ _ _ fun x l E hp => ?_
  obtain ⟨⟨⟨a, b⟩, ⟨sa, n, c⟩⟩, kk, u⟩ := x
  obtain ⟨hp, hu, k, e, hk, hk60, hl, he⟩ := hp
  dsimp only at hk
  subst hk
  have hat := @FracsAt.at _ _ _ hp
  obtain ⟨hn, hmax, hnone, _⟩ := hp
  dsimp only at hn hmax hnone hat hu
  have hlt : k < l.length := (List.getElem?_eq_some_iff.1 hl).1
  have hg : l.getD k Q0 = e := getD_at hl
  cases sa with
  | none => rw [hnone rfl] at hl; cases hl
  | some ad =>
    obtain ⟨h0, h1⟩ := hat rfl hl
    (repeat' ((conv => whnf); (first | with_reducible apply And.intro | (with_reducible intro hh; first | (with_reducible have hx := NewRow.self hh; clear hx) | (with_reducible have hrow := Made.row hh; have hle := Made.le hh; have hmade := hh; clear hh) | (with_reducible have hrow := Fresh.rowS hh; have hle := Fresh.leS hh; have hfr := hh; clear hh) | (with_reducible have hx := Ext.self hh; clear hx) | (with_reducible have hx := SlV.self hh; clear hx) | (with_reducible have hx := Value.self hh; clear hx) | with_reducible cases hh | skip) | (with_reducible apply AllEq.mk; intro yy hq) | with_reducible apply trivial | with_reducible apply Exists.intro () | (with_reducible apply ex_side; (first | with_reducible assumption | with_reducible apply fracs1 | with_reducible apply fracs2 | with_reducible apply fracs3 | with_reducible apply spans1 | with_reducible apply spans2 | (with_reducible apply NewRow.keep; with_reducible assumption) | (with_reducible apply RowAt.keep; with_reducible assumption) | assumption | (focus ((repeat (first | with_reducible assumption | (with_reducible apply RowAt.le; rotate_left; with_reducible assumption) | (with_reducible apply RowB.le; rotate_left; with_reducible assumption))); done)))) | (with_reducible apply ex_side (a := (_, _)); (focus (with_reducible apply And.intro <;> (focus ((repeat (first | with_reducible assumption | (with_reducible apply RowAt.le; rotate_left; with_reducible assumption) | (with_reducible apply RowB.le; rotate_left; with_reducible assumption))); done))))))); (all_goals (conv => whnf)))
    (all_goals (try dsimp only [Q.eta, Sn.eta, SlV.eta] at *)); (all_goals (first | exact Side.mk trivial | with_reducible exact Side.mk rfl | exact Side.mk (fun _ _ h => h) | exact Side.mk (Made.le (by assumption)) | refine Side.mk ?_ | refine Don.mk ?_ | skip))
    all_goals subst_vars
    all_goals first | exact ⟨by omega, by omega⟩ | exact ⟨okQ_idx hk60, hu⟩ | exact ⟨tolO_mul _ _, he⟩ | rfl
abbrev mkqSp : Sp := .rq CI (fun x (l : List Q) E => MarkIn x.1.errs x.1.unit x.2.1 l E) Q.v (fun x l => markT x.1.unit x.2.1.toNat (l.getD x.2.1.toNat Q0))
theorem mkq_ok : Sp.ok Try.prog 146 mkqSp := Sp.rq_ok mk_ok
theorem markIn_of {s : SlV} {u : Q} {l : List Q} {E : Ext} {k : Int} (hp : FracsAt s l E) (hC : okC u l = true) (h0 : 0 ≤ k) (h1 : k < l.length) : MarkIn s u k l E ∧ ∃ m, markO u k.toNat (l.getD k.toNat Q0) = some m ∧ okQ m = true := by
  obtain ⟨hu, _, _, h60, hall, hm⟩ := okC_iff hC
  have hk : l[k.toNat]? = some (l[k.toNat]'(by omega)) := List.getElem?_eq_getElem (by omega)
  generalize l[k.toNat]'(by omega) = e at hk
  refine ⟨⟨hp, hu, k.toNat, e, by omega, by omega, hk, allOk_iff.1 hall _ _ hk⟩, ?_⟩
  rw [getD_at hk]
  exact hm _ _ hk
def markR (u : Q) (l : List Q) (k : Int) : Q × Int := grd Q0 (okC u l) 1 (grd Q0 (withinB k 0 (l.length - 1)) 2 (outO (markO u k.toNat (l.getD k.toNat Q0))))
abbrev markASp : Sp := .rf CI (fun x (l : List Q) E => FracsAt x.1.errs l E) (fun x l => RQ (markR x.1.unit l x.2.1))
/-! the worst error -/
def worQ : Q → List Q → Q
  | a, [] => a
  | a, e :: r => worQ (greQ a (sizQ e)) r
theorem worQ_ok : ∀ {l : List Q} {a : Q}, allOk l = true → okQ a = true → okQ (worQ a l) = true
  | [], _, _, h => h
  | e :: r, a, hl, h => by
    have h1 : okQ e = true ∧ allOk r = true := by simpa [allOk] using hl
    exact worQ_ok (l := r) h1.2 (greQ_ok h (okQ_size h1.1))


end Go.Proofs.Ytlfhjmnaommckaa
