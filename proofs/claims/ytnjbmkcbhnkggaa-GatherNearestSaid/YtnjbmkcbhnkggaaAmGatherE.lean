/-
  gather: square, Cost, the least element. Own work.
-/
import Derived.Test.YtnjbmkcbhnkggaaAmGatherA
import Derived.Test.YtnjbmkcbhnkggaaAmExact
set_option linter.unusedSimpArgs false
namespace Go.AM

def w64 (n : Int) : Int := IntKind.i64.wrap n
def sqV (ax ay bx b_y : Int) : Int := w64 (w64 (w64 (ax - bx) * w64 (ax - bx)) + w64 (w64 (ay - b_y) * w64 (ay - b_y)))

theorem wrap_le (n : Int) : IntKind.i64.wrap n ≤ 9223372036854775807 := by
  simp [IntKind.wrap, IntKind.bits, IntKind.signed]
  split <;> omega

theorem sub_ev (ax ay bx b_y : Int) : Ev E 37 [.agg [.int .i64 ax, .int .i64 ay], .agg [.int .i64 bx, .int .i64 b_y]] ⟨.agg [.int .i64 (w64 (ax - bx)), .int .i64 (w64 (ay - b_y))], []⟩ := by
  refine Ev.of_wpc E_37 (X_37 _) rfl ?_
  rw [enter_pure (by rfl), f37_b]
  simp only [go_sem, Nat.reduceAdd, Nat.reduceSub, Nat.reduceMul, Nat.reduceEqDiff, Nat.reduceLT, Nat.reduceLeDiff, Nat.reduceBEq, reduceCtorEq, Int.reduceToNat, Int.reduceAdd, Int.reduceSub, Int.reduceMul, Int.reduceNeg, Int.reduceLE, Int.reduceLT, Int.reduceEq, ↓reduceIte, w64]

theorem dot_ev (ax ay bx b_y : Int) : Ev E 38 [.agg [.int .i64 ax, .int .i64 ay], .agg [.int .i64 bx, .int .i64 b_y]] ⟨.int .i64 (w64 (w64 (ax * bx) + w64 (ay * b_y))), []⟩ := by
  refine Ev.of_wpc E_38 (X_38 _) rfl ?_
  rw [enter_pure (by rfl), f38_b]
  simp only [go_sem, Nat.reduceAdd, Nat.reduceSub, Nat.reduceMul, Nat.reduceEqDiff, Nat.reduceLT, Nat.reduceLeDiff, Nat.reduceBEq, reduceCtorEq, Int.reduceToNat, Int.reduceAdd, Int.reduceSub, Int.reduceMul, Int.reduceNeg, Int.reduceLE, Int.reduceLT, Int.reduceEq, ↓reduceIte, w64]

theorem square_ev (ax ay bx b_y : Int) : Ev E 24 [.agg [.int .i64 ax, .int .i64 ay], .agg [.int .i64 bx, .int .i64 b_y]] ⟨.int .i64 (sqV ax ay bx b_y), []⟩ := by
  refine Ev.of_wpc E_24 (X_24 _) rfl ?_
  rw [enter_pure (by rfl), f24_b]
  simp only [go_sem, Nat.reduceAdd, Nat.reduceSub, Nat.reduceMul, Nat.reduceEqDiff, Nat.reduceLT, Nat.reduceLeDiff, Nat.reduceBEq, reduceCtorEq, Int.reduceToNat, Int.reduceAdd, Int.reduceSub, Int.reduceMul, Int.reduceNeg, Int.reduceLE, Int.reduceLT, Int.reduceEq, ↓reduceIte]
  refine wpa_pure E_37 rfl (by rfl) (sub_ev ax ay bx b_y) ?_
  simp only [go_sem, Nat.reduceAdd, Nat.reduceSub, Nat.reduceMul, Nat.reduceEqDiff, Nat.reduceLT, Nat.reduceLeDiff, Nat.reduceBEq, reduceCtorEq, Int.reduceToNat, Int.reduceAdd, Int.reduceSub, Int.reduceMul, Int.reduceNeg, Int.reduceLE, Int.reduceLT, Int.reduceEq, ↓reduceIte]
  refine wpa_pure E_38 rfl (by rfl) (dot_ev _ _ _ _) ?_
  simp only [go_sem, Nat.reduceAdd, Nat.reduceSub, Nat.reduceMul, Nat.reduceEqDiff, Nat.reduceLT, Nat.reduceLeDiff, Nat.reduceBEq, reduceCtorEq, Int.reduceToNat, Int.reduceAdd, Int.reduceSub, Int.reduceMul, Int.reduceNeg, Int.reduceLE, Int.reduceLT, Int.reduceEq, ↓reduceIte, sqV]

theorem lawSquare_ev (ax ay bx b_y : Int) : Ev E 11 [.agg [.int .i64 ax, .int .i64 ay], .agg [.int .i64 bx, .int .i64 b_y]] ⟨.int .i64 (sqV ax ay bx b_y), []⟩ := by
  refine Ev.of_wpc E_11 (X_11 _) rfl ?_
  rw [enter_pure (by rfl), f11_b]
  simp only [go_sem, Nat.reduceAdd, Nat.reduceSub, Nat.reduceMul, Nat.reduceEqDiff, Nat.reduceLT, Nat.reduceLeDiff, Nat.reduceBEq, reduceCtorEq, Int.reduceToNat, Int.reduceAdd, Int.reduceSub, Int.reduceMul, Int.reduceNeg, Int.reduceLE, Int.reduceLT, Int.reduceEq, ↓reduceIte, sqV, w64]

open Classical in
noncomputable def sqrtI (n : Int) : Int := if h : ∃ s, IsSqrt n s then h.choose else 0
theorem sqrt_ev {n : Int} (h : n ≤ 9223372036854775807) : Ev E 27 [.int .i64 n] ⟨.int .i64 (sqrtI n), []⟩ := by
  by_cases h0 : 0 < n
  · obtain ⟨res, ⟨s, hs, rfl⟩, hev⟩ := sqrt_pos h0 h
    have : sqrtI n = s := by
      have hex : ∃ s, IsSqrt n s := ⟨s, hs⟩
      unfold sqrtI; rw [dif_pos hex]; exact hex.choose_spec.uniq hs
    rw [this]; exact hev
  · have : sqrtI n = 0 := by
      by_cases hz : n = 0
      · have h0 : IsSqrt n 0 := by subst hz; exact ⟨by omega, by omega, by omega⟩
        have hex : ∃ s, IsSqrt n s := ⟨0, h0⟩
        unfold sqrtI; rw [dif_pos hex]; exact hex.choose_spec.uniq h0
      · unfold sqrtI; rw [dif_neg]
        rintro ⟨s, h1, h2, h3⟩
        have := Int.mul_nonneg h1 h1
        omega
    rw [this]; exact sqrt_neg (by omega)

def sqP (a b : Place) : Int := sqV a.x a.y b.x b.y
noncomputable def costPP (a b : Place) : Int := w64 ((sqrtI (sqP a b)).tdiv 4)

theorem cost_ev {e f w : V} {ps : List Place} {pv : V} (he : e.isPure = true) (hf : f.isPure = true) (hw : w.isPure = true) (hp : IsSl 7 (ps.map Place.v) pv) (hlen : ps.length ≤ 9223372036854775806) {place into : Int} {i k : Nat} {a b : Place}
    (hi : findP ps place = i) (hk : findP ps into = k) (ha : ps[i]? = some a) (hb : ps[k]? = some b) :
    Ev E 12 [.agg [e, f, w, pv], .int .i64 place, .int .i64 into] ⟨.int .i64 (costPP a b), []⟩ := by
  have hpp := hp.pure
  have hpure : V.arePure [.agg [e, f, w, pv], .int .i64 place, .int .i64 into] = true := by simp [V.arePure, V.isPure, *]
  refine Ev.of_wpc E_12 (X_12 _) rfl ?_
  rw [enter_pure hpure, f12_b]
  simp only [go_sem, Nat.reduceAdd, Nat.reduceSub, Nat.reduceMul, Nat.reduceEqDiff, Nat.reduceLT, Nat.reduceLeDiff, Nat.reduceBEq, reduceCtorEq, Int.reduceToNat, Int.reduceAdd, Int.reduceSub, Int.reduceMul, Int.reduceNeg, Int.reduceLE, Int.reduceLT, Int.reduceEq, ↓reduceIte]
  refine wpa_pure E_15 rfl hpure (both_ev he hf hw hp hlen place into) ?_
  simp only [go_sem, Nat.reduceAdd, Nat.reduceSub, Nat.reduceMul, Nat.reduceEqDiff, Nat.reduceLT, Nat.reduceLeDiff, Nat.reduceBEq, reduceCtorEq, Int.reduceToNat, Int.reduceAdd, Int.reduceSub, Int.reduceMul, Int.reduceNeg, Int.reduceLE, Int.reduceLT, Int.reduceEq, ↓reduceIte, hi, hk]
  refine wpc_drawn_of ?_
  have ha' : (ps.map Place.v)[i]? = some a.v := by simp [ha]
  have hb' : (ps.map Place.v)[k]? = some b.v := by simp [hb]
  simp only [go_sem, Nat.reduceAdd, Nat.reduceSub, Nat.reduceMul, Nat.reduceEqDiff, Nat.reduceLT, Nat.reduceLeDiff, Nat.reduceBEq, reduceCtorEq, Int.reduceToNat, Int.reduceAdd, Int.reduceSub, Int.reduceMul, Int.reduceNeg, Int.reduceLE, Int.reduceLT, Int.reduceEq, ↓reduceIte, idx_sl hp, ha', hb', Place.v]
  refine wpf_pure E_24 rfl (by rfl) (square_ev a.x a.y b.x b.y) ?_
  simp only [go_sem, Nat.reduceAdd, Nat.reduceSub, Nat.reduceMul, Nat.reduceEqDiff, Nat.reduceLT, Nat.reduceLeDiff, Nat.reduceBEq, reduceCtorEq, Int.reduceToNat, Int.reduceAdd, Int.reduceSub, Int.reduceMul, Int.reduceNeg, Int.reduceLE, Int.reduceLT, Int.reduceEq, ↓reduceIte]
  refine wpf_pure E_27 rfl (by rfl) (sqrt_ev (wrap_le _)) ?_
  simp only [go_sem, Nat.reduceAdd, Nat.reduceSub, Nat.reduceMul, Nat.reduceEqDiff, Nat.reduceLT, Nat.reduceLeDiff, Nat.reduceBEq, reduceCtorEq, Int.reduceToNat, Int.reduceAdd, Int.reduceSub, Int.reduceMul, Int.reduceNeg, Int.reduceLE, Int.reduceLT, Int.reduceEq, ↓reduceIte, costPP, sqP, w64, hpp, he, hf, hw]
  rfl

/-- the closure that compares two places by their distance from a third one -/
def cmpFrom (p a b : Place) : Int := orI (cmpI (sqP p a) (sqP p b)) (cmpI a.id b.id)
theorem cmpFrom_ev (p a b : Place) : Ev E 21 [a.v, b.v, .eptr p.v 0] ⟨.int .i64 (cmpFrom p a b), []⟩ := by
  refine Ev.of_wpc E_21 (X_21 _) rfl ?_
  rw [enter_pure (by rfl), f21_b]
  simp only [go_sem, Nat.reduceAdd, Nat.reduceSub, Nat.reduceMul, Nat.reduceEqDiff, Nat.reduceLT, Nat.reduceLeDiff, Nat.reduceBEq, reduceCtorEq, Int.reduceToNat, Int.reduceAdd, Int.reduceSub, Int.reduceMul, Int.reduceNeg, Int.reduceLE, Int.reduceLT, Int.reduceEq, ↓reduceIte, Place.v]
  refine wpc_drawn_of ?_
  simp only [go_sem, Nat.reduceAdd, Nat.reduceSub, Nat.reduceMul, Nat.reduceEqDiff, Nat.reduceLT, Nat.reduceLeDiff, Nat.reduceBEq, reduceCtorEq, Int.reduceToNat, Int.reduceAdd, Int.reduceSub, Int.reduceMul, Int.reduceNeg, Int.reduceLE, Int.reduceLT, Int.reduceEq, ↓reduceIte, Place.v]
  refine wpf_pure E_24 rfl (by rfl) (square_ev p.x p.y a.x a.y) ?_
  simp only [go_sem, Nat.reduceAdd, Nat.reduceSub, Nat.reduceMul, Nat.reduceEqDiff, Nat.reduceLT, Nat.reduceLeDiff, Nat.reduceBEq, reduceCtorEq, Int.reduceToNat, Int.reduceAdd, Int.reduceSub, Int.reduceMul, Int.reduceNeg, Int.reduceLE, Int.reduceLT, Int.reduceEq, ↓reduceIte]
  refine wpf_pure E_24 rfl (by rfl) (square_ev p.x p.y b.x b.y) ?_
  simp only [go_sem, Nat.reduceAdd, Nat.reduceSub, Nat.reduceMul, Nat.reduceEqDiff, Nat.reduceLT, Nat.reduceLeDiff, Nat.reduceBEq, reduceCtorEq, Int.reduceToNat, Int.reduceAdd, Int.reduceSub, Int.reduceMul, Int.reduceNeg, Int.reduceLE, Int.reduceLT, Int.reduceEq, ↓reduceIte]
  refine wpf_pure E_23 rfl (by rfl) (compare_ev _ _) ?_
  simp only [go_sem, Nat.reduceAdd, Nat.reduceSub, Nat.reduceMul, Nat.reduceEqDiff, Nat.reduceLT, Nat.reduceLeDiff, Nat.reduceBEq, reduceCtorEq, Int.reduceToNat, Int.reduceAdd, Int.reduceSub, Int.reduceMul, Int.reduceNeg, Int.reduceLE, Int.reduceLT, Int.reduceEq, ↓reduceIte]
  refine wpf_pure E_23 rfl (by rfl) (compare_ev _ _) ?_
  simp only [go_sem, Nat.reduceAdd, Nat.reduceSub, Nat.reduceMul, Nat.reduceEqDiff, Nat.reduceLT, Nat.reduceLeDiff, Nat.reduceBEq, reduceCtorEq, Int.reduceToNat, Int.reduceAdd, Int.reduceSub, Int.reduceMul, Int.reduceNeg, Int.reduceLE, Int.reduceLT, Int.reduceEq, ↓reduceIte]
  simp only [go_sem, Nat.reduceAdd, Nat.reduceSub, Nat.reduceMul, Nat.reduceEqDiff, Nat.reduceLT, Nat.reduceLeDiff, Nat.reduceBEq, reduceCtorEq, Int.reduceToNat, Int.reduceAdd, Int.reduceSub, Int.reduceMul, Int.reduceNeg, Int.reduceLE, Int.reduceLT, Int.reduceEq, ↓reduceIte, doCall, wpa_call, wpf_call, prepare.eq_1, prepare.eq_2, prepare.eq_3, prepare.eq_4, prepare.eq_5, prepare.eq_6, prepare.eq_7, snap, snapV_pure, snapV.eq_2, snapV.eq_3, snapV.eq_4, snapV.eq_5, snapV.eq_6, snapV.eq_7, snapL.eq_1, snapL.eq_2, snapAll, E_22, f22]
  refine ⟨_, orI_ev _ _, ?_⟩
  simp only [go_sem, Nat.reduceAdd, Nat.reduceSub, Nat.reduceMul, Nat.reduceEqDiff, Nat.reduceLT, Nat.reduceLeDiff, Nat.reduceBEq, reduceCtorEq, Int.reduceToNat, Int.reduceAdd, Int.reduceSub, Int.reduceMul, Int.reduceNeg, Int.reduceLE, Int.reduceLT, Int.reduceEq, ↓reduceIte]
  exact ⟨by rfl, rfl⟩

/-- the least element, the first of such -/
def minF {α : Type} (c : α → α → Int) (l : List α) (x : α) : α := l.foldl (fun m y => if c y m < 0 then y else m) x

theorem minFunc_ev {l : List Place} {x0 : Place} {sv : V} (hs : IsSl 7 ((x0 :: l).map Place.v) sv) (hlen : l.length ≤ 9223372036854775800) {g : Nat} {af : AFunc} {caps : List V} (hg : E.fn g = some af) (hm : af.modes = []) (hc : V.arePure caps = true) {c : Place → Place → Int}
    (hp : ∀ a b, Ev E g (a.v :: b.v :: caps) ⟨.int .i64 (c a b), []⟩) : Ev E 35 [sv, .fn g caps] ⟨(minF c l x0).v, []⟩ := by
  have hsp := hs.pure
  refine Ev.of_wpc E_35 (X_35 _) rfl ?_
  rw [enter_pure (by simp [V.arePure, V.isPure, *]), f35_b]
  have h0 : ¬ (((x0 :: l).length : Nat) : Int) < 1 := by simp; omega
  have hx0 : ((x0 :: l).map Place.v)[0]? = some x0.v := rfl
  have hl1 : ((x0 :: l).map Place.v).length = l.length + 1 := by simp
  rw [List.length_cons] at h0
  generalize hL : (x0 :: l).map Place.v = L at hs hx0 hl1
  simp only [go_sem, Nat.reduceAdd, Nat.reduceSub, Nat.reduceMul, Nat.reduceEqDiff, Nat.reduceLT, Nat.reduceLeDiff, Nat.reduceBEq, reduceCtorEq, Int.reduceToNat, Int.reduceAdd, Int.reduceSub, Int.reduceMul, Int.reduceNeg, Int.reduceLE, Int.reduceLT, Int.reduceEq, ↓reduceIte, len_sl hs, hl1, h0, idx_sl hs, hx0, Place.v]
  refine wpc_loop_of (fun k σ => ∃ (i : Nat) (m : Place), k = l.length - i ∧ i ≤ l.length ∧ m = minF c (l.take i) x0 ∧ σ.T 0 = sv ∧ σ.T 1 = .fn g caps ∧ σ.T 6 = .int .i64 ((i + 1 : Nat) : Int) ∧ σ.T 4 = .ptr 80 1 0 0 ∧ σ.T 5 = .ptr 96 1 0 0 ∧
    (∃ z, σ.O 80 = { gen := 1, sz := 7, arr := false, fz := false, es := some [.agg z] } ∧ z.length = 7) ∧ σ.O 96 = { gen := 1, sz := 7, arr := false, fz := false, es := some [m.v] }) ?_ l.length _ ?_
  case refine_2 => exact ⟨0, x0, by simp, by simp, rfl, by (first | assumption | rfl | omega | (simp; done) | (simp; omega) | ((simp only [go_sem, Nat.reduceAdd, Nat.reduceSub, Nat.reduceMul, Nat.reduceEqDiff, Nat.reduceLT, Nat.reduceLeDiff, Nat.reduceBEq, reduceCtorEq, Int.reduceToNat, Int.reduceAdd, Int.reduceSub, Int.reduceMul, Int.reduceNeg, Int.reduceLE, Int.reduceLT, Int.reduceEq, ↓reduceIte]); done) | ((simp only [go_sem, Nat.reduceAdd, Nat.reduceSub, Nat.reduceMul, Nat.reduceEqDiff, Nat.reduceLT, Nat.reduceLeDiff, Nat.reduceBEq, reduceCtorEq, Int.reduceToNat, Int.reduceAdd, Int.reduceSub, Int.reduceMul, Int.reduceNeg, Int.reduceLE, Int.reduceLT, Int.reduceEq, ↓reduceIte]); simp; done) | ((simp only [go_sem, Nat.reduceAdd, Nat.reduceSub, Nat.reduceMul, Nat.reduceEqDiff, Nat.reduceLT, Nat.reduceLeDiff, Nat.reduceBEq, reduceCtorEq, Int.reduceToNat, Int.reduceAdd, Int.reduceSub, Int.reduceMul, Int.reduceNeg, Int.reduceLE, Int.reduceLT, Int.reduceEq, ↓reduceIte]); omega)), by (first | assumption | rfl | omega | (simp; done) | (simp; omega) | ((simp only [go_sem, Nat.reduceAdd, Nat.reduceSub, Nat.reduceMul, Nat.reduceEqDiff, Nat.reduceLT, Nat.reduceLeDiff, Nat.reduceBEq, reduceCtorEq, Int.reduceToNat, Int.reduceAdd, Int.reduceSub, Int.reduceMul, Int.reduceNeg, Int.reduceLE, Int.reduceLT, Int.reduceEq, ↓reduceIte]); done) | ((simp only [go_sem, Nat.reduceAdd, Nat.reduceSub, Nat.reduceMul, Nat.reduceEqDiff, Nat.reduceLT, Nat.reduceLeDiff, Nat.reduceBEq, reduceCtorEq, Int.reduceToNat, Int.reduceAdd, Int.reduceSub, Int.reduceMul, Int.reduceNeg, Int.reduceLE, Int.reduceLT, Int.reduceEq, ↓reduceIte]); simp; done) | ((simp only [go_sem, Nat.reduceAdd, Nat.reduceSub, Nat.reduceMul, Nat.reduceEqDiff, Nat.reduceLT, Nat.reduceLeDiff, Nat.reduceBEq, reduceCtorEq, Int.reduceToNat, Int.reduceAdd, Int.reduceSub, Int.reduceMul, Int.reduceNeg, Int.reduceLE, Int.reduceLT, Int.reduceEq, ↓reduceIte]); omega)), by simp only [go_sem, Nat.reduceAdd, Nat.reduceSub, Nat.reduceMul, Nat.reduceEqDiff, Nat.reduceLT, Nat.reduceLeDiff, Nat.reduceBEq, reduceCtorEq, Int.reduceToNat, Int.reduceAdd, Int.reduceSub, Int.reduceMul, Int.reduceNeg, Int.reduceLE, Int.reduceLT, Int.reduceEq, ↓reduceIte], by (first | assumption | rfl | omega | (simp; done) | (simp; omega) | ((simp only [go_sem, Nat.reduceAdd, Nat.reduceSub, Nat.reduceMul, Nat.reduceEqDiff, Nat.reduceLT, Nat.reduceLeDiff, Nat.reduceBEq, reduceCtorEq, Int.reduceToNat, Int.reduceAdd, Int.reduceSub, Int.reduceMul, Int.reduceNeg, Int.reduceLE, Int.reduceLT, Int.reduceEq, ↓reduceIte]); done) | ((simp only [go_sem, Nat.reduceAdd, Nat.reduceSub, Nat.reduceMul, Nat.reduceEqDiff, Nat.reduceLT, Nat.reduceLeDiff, Nat.reduceBEq, reduceCtorEq, Int.reduceToNat, Int.reduceAdd, Int.reduceSub, Int.reduceMul, Int.reduceNeg, Int.reduceLE, Int.reduceLT, Int.reduceEq, ↓reduceIte]); simp; done) | ((simp only [go_sem, Nat.reduceAdd, Nat.reduceSub, Nat.reduceMul, Nat.reduceEqDiff, Nat.reduceLT, Nat.reduceLeDiff, Nat.reduceBEq, reduceCtorEq, Int.reduceToNat, Int.reduceAdd, Int.reduceSub, Int.reduceMul, Int.reduceNeg, Int.reduceLE, Int.reduceLT, Int.reduceEq, ↓reduceIte]); omega)), by (first | assumption | rfl | omega | (simp; done) | (simp; omega) | ((simp only [go_sem, Nat.reduceAdd, Nat.reduceSub, Nat.reduceMul, Nat.reduceEqDiff, Nat.reduceLT, Nat.reduceLeDiff, Nat.reduceBEq, reduceCtorEq, Int.reduceToNat, Int.reduceAdd, Int.reduceSub, Int.reduceMul, Int.reduceNeg, Int.reduceLE, Int.reduceLT, Int.reduceEq, ↓reduceIte]); done) | ((simp only [go_sem, Nat.reduceAdd, Nat.reduceSub, Nat.reduceMul, Nat.reduceEqDiff, Nat.reduceLT, Nat.reduceLeDiff, Nat.reduceBEq, reduceCtorEq, Int.reduceToNat, Int.reduceAdd, Int.reduceSub, Int.reduceMul, Int.reduceNeg, Int.reduceLE, Int.reduceLT, Int.reduceEq, ↓reduceIte]); simp; done) | ((simp only [go_sem, Nat.reduceAdd, Nat.reduceSub, Nat.reduceMul, Nat.reduceEqDiff, Nat.reduceLT, Nat.reduceLeDiff, Nat.reduceBEq, reduceCtorEq, Int.reduceToNat, Int.reduceAdd, Int.reduceSub, Int.reduceMul, Int.reduceNeg, Int.reduceLE, Int.reduceLT, Int.reduceEq, ↓reduceIte]); omega)), ⟨_, by simp only [go_sem, Nat.reduceAdd, Nat.reduceSub, Nat.reduceMul, Nat.reduceEqDiff, Nat.reduceLT, Nat.reduceLeDiff, Nat.reduceBEq, reduceCtorEq, Int.reduceToNat, Int.reduceAdd, Int.reduceSub, Int.reduceMul, Int.reduceNeg, Int.reduceLE, Int.reduceLT, Int.reduceEq, ↓reduceIte]; rfl, rfl⟩, by simp only [go_sem, Nat.reduceAdd, Nat.reduceSub, Nat.reduceMul, Nat.reduceEqDiff, Nat.reduceLT, Nat.reduceLeDiff, Nat.reduceBEq, reduceCtorEq, Int.reduceToNat, Int.reduceAdd, Int.reduceSub, Int.reduceMul, Int.reduceNeg, Int.reduceLE, Int.reduceLT, Int.reduceEq, ↓reduceIte]; rfl⟩
  rintro k σ ⟨i, m, rfl, hi, hmi, h0', h1, h6, h4, h5, ⟨z, h80, hz⟩, h96⟩
  by_cases hlt : i < l.length
  · obtain ⟨y, hy⟩ : ∃ y, l[i]? = some y := ⟨_, List.getElem?_eq_getElem hlt⟩
    have hy' : L[i + 1]? = some y.v := by rw [← hL]; simp [hy]
    have hlt' : i + 1 < l.length + 1 := by omega
    have hw := wrap64 (n := ((i + 1 : Nat) : Int) + 1) (by omega) (by omega)
    simp only [go_sem, Nat.reduceAdd, Nat.reduceSub, Nat.reduceMul, Nat.reduceEqDiff, Nat.reduceLT, Nat.reduceLeDiff, Nat.reduceBEq, reduceCtorEq, Int.reduceToNat, Int.reduceAdd, Int.reduceSub, Int.reduceMul, Int.reduceNeg, Int.reduceLE, Int.reduceLT, Int.reduceEq, ↓reduceIte, h0', h1, h6, h4, h5, h80, h96, len_sl hs, hl1, hlt', Place.v]
    refine wpc_drawn_of ?_
    simp only [go_sem, Nat.reduceAdd, Nat.reduceSub, Nat.reduceMul, Nat.reduceEqDiff, Nat.reduceLT, Nat.reduceLeDiff, Nat.reduceBEq, reduceCtorEq, Int.reduceToNat, Int.reduceAdd, Int.reduceSub, Int.reduceMul, Int.reduceNeg, Int.reduceLE, Int.reduceLT, Int.reduceEq, ↓reduceIte, h0', h1, h6, h4, h5, h80, h96, idx_sl hs, hy', Place.v]
    refine wpf_pure hg hm ?_ (hp y m) ?_
    · simp [V.arePure, V.isPure, hc]
    have htk : minF c (l.take (i + 1)) x0 = if c y m < 0 then y else m := by
      rw [List.take_add_one, hy, minF, Option.toList_some, List.foldl_append, List.foldl_cons, List.foldl_nil]
      rw [hmi]; rfl
    by_cases hcy : c y m < 0
    · rw [if_pos hcy] at htk
      simp only [go_sem, Nat.reduceAdd, Nat.reduceSub, Nat.reduceMul, Nat.reduceEqDiff, Nat.reduceLT, Nat.reduceLeDiff, Nat.reduceBEq, reduceCtorEq, Int.reduceToNat, Int.reduceAdd, Int.reduceSub, Int.reduceMul, Int.reduceNeg, Int.reduceLE, Int.reduceLT, Int.reduceEq, ↓reduceIte, hcy, h0', h1, h6, h4, h5, h80, h96, idx_sl hs, hy', Place.v, hw]
      refine ⟨by rfl, l.length - (i + 1), by omega, i + 1, y, rfl, by omega, htk.symm, ?_⟩
      exact ⟨rfl, ⟨z, rfl, hz⟩, rfl⟩
    · rw [if_neg hcy] at htk
      simp only [go_sem, Nat.reduceAdd, Nat.reduceSub, Nat.reduceMul, Nat.reduceEqDiff, Nat.reduceLT, Nat.reduceLeDiff, Nat.reduceBEq, reduceCtorEq, Int.reduceToNat, Int.reduceAdd, Int.reduceSub, Int.reduceMul, Int.reduceNeg, Int.reduceLE, Int.reduceLT, Int.reduceEq, ↓reduceIte, hcy, h0', h1, h6, h4, h5, h80, h96, idx_sl hs, hy', Place.v, hw]
      refine ⟨by rfl, l.length - (i + 1), by omega, i + 1, m, rfl, by omega, htk.symm, ?_⟩
      exact ⟨rfl, ⟨z, rfl, hz⟩, rfl⟩
  · obtain rfl : i = l.length := by omega
    rw [List.take_length] at hmi
    subst hmi
    have hlt' : ¬ l.length + 1 < l.length + 1 := by omega
    simp only [go_sem, Nat.reduceAdd, Nat.reduceSub, Nat.reduceMul, Nat.reduceEqDiff, Nat.reduceLT, Nat.reduceLeDiff, Nat.reduceBEq, reduceCtorEq, Int.reduceToNat, Int.reduceAdd, Int.reduceSub, Int.reduceMul, Int.reduceNeg, Int.reduceLE, Int.reduceLT, Int.reduceEq, ↓reduceIte, h0', h1, h6, h4, h5, h80, h96, len_sl hs, hl1, hlt', Place.v, hz, hsp, hc]

theorem least_nil {sv : V} (hs : IsSl 7 [] sv) (f : V) (hf : f.isPure = true) : Ev E 20 [sv, f] ⟨.tuple [Place.zero.v, .bool false], []⟩ := by
  have hsp := hs.pure
  refine Ev.of_wpc E_20 (X_20 _) rfl ?_
  rw [enter_pure (by simp [V.arePure, V.isPure, *]), f20_b]
  simp only [go_sem, Nat.reduceAdd, Nat.reduceSub, Nat.reduceMul, Nat.reduceEqDiff, Nat.reduceLT, Nat.reduceLeDiff, Nat.reduceBEq, reduceCtorEq, Int.reduceToNat, Int.reduceAdd, Int.reduceSub, Int.reduceMul, Int.reduceNeg, Int.reduceLE, Int.reduceLT, Int.reduceEq, ↓reduceIte, len_sl hs, Place.zero, Place.v, hsp, hf]

theorem least_ev {l : List Place} {x0 : Place} {sv : V} (hs : IsSl 7 ((x0 :: l).map Place.v) sv) (hlen : l.length ≤ 9223372036854775800) {g : Nat} {af : AFunc} {caps : List V} (hg : E.fn g = some af) (hm : af.modes = []) (hc : V.arePure caps = true) {c : Place → Place → Int}
    (hp : ∀ a b, Ev E g (a.v :: b.v :: caps) ⟨.int .i64 (c a b), []⟩) : Ev E 20 [sv, .fn g caps] ⟨.tuple [(minF c l x0).v, .bool true], []⟩ := by
  have hsp := hs.pure
  refine Ev.of_wpc E_20 (X_20 _) rfl ?_
  rw [enter_pure (by simp [V.arePure, V.isPure, *]), f20_b]
  have h0 : ¬ (((x0 :: l).map Place.v).length : Int) = 0 := by simp; omega
  simp only [go_sem, Nat.reduceAdd, Nat.reduceSub, Nat.reduceMul, Nat.reduceEqDiff, Nat.reduceLT, Nat.reduceLeDiff, Nat.reduceBEq, reduceCtorEq, Int.reduceToNat, Int.reduceAdd, Int.reduceSub, Int.reduceMul, Int.reduceNeg, Int.reduceLE, Int.reduceLT, Int.reduceEq, ↓reduceIte, len_sl hs, h0]
  refine wpa_pure E_35 rfl (by simp [V.arePure, V.isPure, *]) (minFunc_ev hs hlen hg hm hc hp) ?_
  generalize minF c l x0 = m
  simp only [go_sem, Nat.reduceAdd, Nat.reduceSub, Nat.reduceMul, Nat.reduceEqDiff, Nat.reduceLT, Nat.reduceLeDiff, Nat.reduceBEq, reduceCtorEq, Int.reduceToNat, Int.reduceAdd, Int.reduceSub, Int.reduceMul, Int.reduceNeg, Int.reduceLE, Int.reduceLT, Int.reduceEq, ↓reduceIte, Place.v, hsp, hc]
end Go.AM
