/-
  gather: find, both, Can. Own work.
-/
import Derived.Test.YtnjbmkcbhnkggaaAmLibA
set_option linter.unusedSimpArgs false
namespace Go.AM

def findP (ps : List Place) (id : Int) : Int := firstIdx (fun p => decide (p.id = id)) ps

theorem find1_ev (p : Place) (id : Int) (off : Nat) (h : off = 0) : Ev E 34 [p.v, .eptr (.int .i64 id) off] ⟨.bool (decide (p.id = id)), []⟩ := by
  subst h
  refine Ev.of_wpc E_34 (X_34 _) rfl ?_
  rw [enter_pure (by rfl), f34_b]
  simp only [go_sem, Nat.reduceAdd, Nat.reduceSub, Nat.reduceMul, Nat.reduceEqDiff, Nat.reduceLT, Nat.reduceLeDiff, Nat.reduceBEq, reduceCtorEq, Int.reduceToNat, Int.reduceAdd, Int.reduceSub, Int.reduceMul, Int.reduceNeg, Int.reduceLE, Int.reduceLT, Int.reduceEq, ↓reduceIte, Place.v]

theorem find_ev {e f w : V} {ps : List Place} {pv : V} (he : e.isPure = true) (hf : f.isPure = true) (hw : w.isPure = true) (hp : IsSl 7 (ps.map Place.v) pv) (hlen : ps.length ≤ 9223372036854775806) (id : Int) :
   Ev E 19 [.agg [e, f, w, pv], .int .i64 id] ⟨.int .i64 (findP ps id), []⟩ := by
  have hpp := hp.pure
  refine Ev.of_wpc E_19 (X_19 _) rfl ?_
  rw [enter_pure (by simp [V.arePure, V.isPure, *]), f19_b]
  simp only [go_sem, Nat.reduceAdd, Nat.reduceSub, Nat.reduceMul, Nat.reduceEqDiff, Nat.reduceLT, Nat.reduceLeDiff, Nat.reduceBEq, reduceCtorEq, Int.reduceToNat, Int.reduceAdd, Int.reduceSub, Int.reduceMul, Int.reduceNeg, Int.reduceLE, Int.reduceLT, Int.reduceEq, ↓reduceIte]
  simp only [go_sem, Nat.reduceAdd, Nat.reduceSub, Nat.reduceMul, Nat.reduceEqDiff, Nat.reduceLT, Nat.reduceLeDiff, Nat.reduceBEq, reduceCtorEq, Int.reduceToNat, Int.reduceAdd, Int.reduceSub, Int.reduceMul, Int.reduceNeg, Int.reduceLE, Int.reduceLT, Int.reduceEq, ↓reduceIte, doCall, wpa_call, wpf_call, prepare.eq_1, prepare.eq_2, prepare.eq_3, prepare.eq_4, prepare.eq_5, prepare.eq_6, prepare.eq_7, snap, snapV_pure, snapV.eq_2, snapV.eq_3, snapV.eq_4, snapV.eq_5, snapV.eq_6, snapV.eq_7, snapL.eq_1, snapL.eq_2, snapAll, E_33, f33, hpp]
  refine ⟨_, indexFunc_Place hp Place.part Place.pure hlen E_34 rfl (by rfl) (fun x _ => find1_ev x id 0 rfl), ?_⟩
  simp only [go_sem, Nat.reduceAdd, Nat.reduceSub, Nat.reduceMul, Nat.reduceEqDiff, Nat.reduceLT, Nat.reduceLeDiff, Nat.reduceBEq, reduceCtorEq, Int.reduceToNat, Int.reduceAdd, Int.reduceSub, Int.reduceMul, Int.reduceNeg, Int.reduceLE, Int.reduceLT, Int.reduceEq, ↓reduceIte, hpp, he, hf, hw]
  rfl

theorem both_ev {e f w : V} {ps : List Place} {pv : V} (he : e.isPure = true) (hf : f.isPure = true) (hw : w.isPure = true) (hp : IsSl 7 (ps.map Place.v) pv) (hlen : ps.length ≤ 9223372036854775806) (i k : Int) :
   Ev E 15 [.agg [e, f, w, pv], .int .i64 i, .int .i64 k] ⟨.tuple [.int .i64 (findP ps i), .int .i64 (findP ps k), .bool (decide (0 ≤ findP ps i ∧ 0 ≤ findP ps k))], []⟩ := by
  have hpp := hp.pure
  have hfind := find_ev he hf hw hp hlen
  have hpure : ∀ i, V.arePure [.agg [e, f, w, pv], .int .i64 i] = true := by simp [V.arePure, V.isPure, *]
  refine Ev.of_wpc E_15 (X_15 _) rfl ?_
  rw [enter_pure (by simp [V.arePure, V.isPure, *])]
  rw [f15_b]
  simp only [go_sem, Nat.reduceAdd, Nat.reduceSub, Nat.reduceMul, Nat.reduceEqDiff, Nat.reduceLT, Nat.reduceLeDiff, Nat.reduceBEq, reduceCtorEq, Int.reduceToNat, Int.reduceAdd, Int.reduceSub, Int.reduceMul, Int.reduceNeg, Int.reduceLE, Int.reduceLT, Int.reduceEq, ↓reduceIte]
  refine wpc_drawn_of ?_
  simp only [go_sem, Nat.reduceAdd, Nat.reduceSub, Nat.reduceMul, Nat.reduceEqDiff, Nat.reduceLT, Nat.reduceLeDiff, Nat.reduceBEq, reduceCtorEq, Int.reduceToNat, Int.reduceAdd, Int.reduceSub, Int.reduceMul, Int.reduceNeg, Int.reduceLE, Int.reduceLT, Int.reduceEq, ↓reduceIte]
  refine wpf_pure E_19 rfl (hpure _) (hfind i) ?_
  simp only [go_sem, Nat.reduceAdd, Nat.reduceSub, Nat.reduceMul, Nat.reduceEqDiff, Nat.reduceLT, Nat.reduceLeDiff, Nat.reduceBEq, reduceCtorEq, Int.reduceToNat, Int.reduceAdd, Int.reduceSub, Int.reduceMul, Int.reduceNeg, Int.reduceLE, Int.reduceLT, Int.reduceEq, ↓reduceIte]
  refine wpf_pure E_19 rfl (hpure _) (hfind k) ?_
  by_cases h1 : 0 ≤ findP ps i <;> by_cases h2 : 0 ≤ findP ps k
  all_goals
    simp only [go_sem, Nat.reduceAdd, Nat.reduceSub, Nat.reduceMul, Nat.reduceEqDiff, Nat.reduceLT, Nat.reduceLeDiff, Nat.reduceBEq, reduceCtorEq, Int.reduceToNat, Int.reduceAdd, Int.reduceSub, Int.reduceMul, Int.reduceNeg, Int.reduceLE, Int.reduceLT, Int.reduceEq, ↓reduceIte, h1, h2]
    rfl

/-- a place by its number; the model's own index -/
def OkC (ps : List Place) (place into : Int) (i k : Nat) (a b : Place) : Prop := findP ps place = i ∧ findP ps into = k ∧ ps[i]? = some a ∧ ps[k]? = some b

def canPP (place into : Int) (a b : Place) : Int :=
  if place = into ∨ a.cls ≠ b.cls ∨ b.weight < a.weight ∨ (a.weight = b.weight ∧ a.id < b.id) then 1
  else if a.dist ≠ b.dist then 25
  else if a.name ≠ [] ∧ b.name ≠ [] ∧ a.name ≠ b.name then 24
  else 0

def canP (ps : List Place) (place into : Int) : Int :=
  if 0 ≤ findP ps place ∧ 0 ≤ findP ps into then
    match ps[(findP ps place).toNat]?, ps[(findP ps into).toNat]? with
    | some a, some b => canPP place into a b
    | _, _ => 0
  else 5

theorem firstIdx_cases {α : Type} (p : α → Bool) (l : List α) : firstIdx p l = -1 ∨ ∃ i x, firstIdx p l = ((i : Nat) : Int) ∧ l[i]? = some x ∧ p x = true := by
  unfold firstIdx
  cases h : l.findIdx? p with
  | none => exact .inl rfl
  | some i =>
    rw [List.findIdx?_eq_some_iff_getElem] at h
    obtain ⟨hl, hp, _⟩ := h
    exact .inr ⟨i, l[i], rfl, List.getElem?_eq_getElem hl, hp⟩

theorem can_ev {e f w : V} {ps : List Place} {pv : V} (he : e.isPure = true) (hf : f.isPure = true) (hw : w.isPure = true) (hp : IsSl 7 (ps.map Place.v) pv) (hlen : ps.length ≤ 9223372036854775806) (place into : Int) :
   Ev E 8 [.agg [e, f, w, pv], .int .i64 place, .int .i64 into] ⟨.int .i64 (canP ps place into), []⟩ := by
  have hpp := hp.pure
  have hpure : V.arePure [.agg [e, f, w, pv], .int .i64 place, .int .i64 into] = true := by simp [V.arePure, V.isPure, *]
  refine Ev.of_wpc E_8 (X_8 _) rfl ?_
  rw [enter_pure hpure, f8_b]
  simp only [go_sem, Nat.reduceAdd, Nat.reduceSub, Nat.reduceMul, Nat.reduceEqDiff, Nat.reduceLT, Nat.reduceLeDiff, Nat.reduceBEq, reduceCtorEq, Int.reduceToNat, Int.reduceAdd, Int.reduceSub, Int.reduceMul, Int.reduceNeg, Int.reduceLE, Int.reduceLT, Int.reduceEq, ↓reduceIte]
  refine wpa_pure E_15 rfl hpure (both_ev he hf hw hp hlen place into) ?_
  by_cases h : 0 ≤ findP ps place ∧ 0 ≤ findP ps into
  · obtain ⟨i, a, hi, ha⟩ : ∃ i a, findP ps place = ((i : Nat) : Int) ∧ ps[i]? = some a := by
      rcases firstIdx_cases (fun p => decide (p.id = place)) ps with h1 | ⟨i, x, h1, h2, _⟩
      · have := h.1; unfold findP at this; omega
      · exact ⟨i, x, h1, h2⟩
    obtain ⟨k, b, hk, hb⟩ : ∃ i a, findP ps into = ((i : Nat) : Int) ∧ ps[i]? = some a := by
      rcases firstIdx_cases (fun p => decide (p.id = into)) ps with h1 | ⟨i, x, h1, h2, _⟩
      · have := h.2; unfold findP at this; omega
      · exact ⟨i, x, h1, h2⟩
    have hcan : canP ps place into = canPP place into a b := by
      simp [canP, hi, hk, ha, hb]
    rw [hcan]
    simp only [go_sem, Nat.reduceAdd, Nat.reduceSub, Nat.reduceMul, Nat.reduceEqDiff, Nat.reduceLT, Nat.reduceLeDiff, Nat.reduceBEq, reduceCtorEq, Int.reduceToNat, Int.reduceAdd, Int.reduceSub, Int.reduceMul, Int.reduceNeg, Int.reduceLE, Int.reduceLT, Int.reduceEq, ↓reduceIte, h, hi, hk]
    refine wpc_drawn_of ?_
    have ha' : (ps.map Place.v)[i]? = some a.v := by simp [ha]
    have hb' : (ps.map Place.v)[k]? = some b.v := by simp [hb]
    by_cases c1 : place = into
    · simp only [go_sem, Nat.reduceAdd, Nat.reduceSub, Nat.reduceMul, Nat.reduceEqDiff, Nat.reduceLT, Nat.reduceLeDiff, Nat.reduceBEq, reduceCtorEq, Int.reduceToNat, Int.reduceAdd, Int.reduceSub, Int.reduceMul, Int.reduceNeg, Int.reduceLE, Int.reduceLT, Int.reduceEq, ↓reduceIte, idx_sl hp, Int.natCast_nonneg, Int.toNat_natCast, ha', hb', Place.v, hpp, he, hf, hw, c1]
      exact ⟨by rfl, by simp [canPP, c1]⟩
    by_cases c2 : a.cls = b.cls
    case neg =>
      simp only [go_sem, Nat.reduceAdd, Nat.reduceSub, Nat.reduceMul, Nat.reduceEqDiff, Nat.reduceLT, Nat.reduceLeDiff, Nat.reduceBEq, reduceCtorEq, Int.reduceToNat, Int.reduceAdd, Int.reduceSub, Int.reduceMul, Int.reduceNeg, Int.reduceLE, Int.reduceLT, Int.reduceEq, ↓reduceIte, idx_sl hp, Int.natCast_nonneg, Int.toNat_natCast, ha', hb', Place.v, hpp, he, hf, hw, c1, c2]
      exact ⟨by rfl, by simp [canPP, c2]⟩
    by_cases c3 : b.weight < a.weight
    · simp only [go_sem, Nat.reduceAdd, Nat.reduceSub, Nat.reduceMul, Nat.reduceEqDiff, Nat.reduceLT, Nat.reduceLeDiff, Nat.reduceBEq, reduceCtorEq, Int.reduceToNat, Int.reduceAdd, Int.reduceSub, Int.reduceMul, Int.reduceNeg, Int.reduceLE, Int.reduceLT, Int.reduceEq, ↓reduceIte, idx_sl hp, Int.natCast_nonneg, Int.toNat_natCast, ha', hb', Place.v, hpp, he, hf, hw, c1, c2, c3]
      exact ⟨by rfl, by simp [canPP, c3]⟩
    by_cases c4 : a.weight = b.weight ∧ a.id < b.id
    · simp only [go_sem, Nat.reduceAdd, Nat.reduceSub, Nat.reduceMul, Nat.reduceEqDiff, Nat.reduceLT, Nat.reduceLeDiff, Nat.reduceBEq, reduceCtorEq, Int.reduceToNat, Int.reduceAdd, Int.reduceSub, Int.reduceMul, Int.reduceNeg, Int.reduceLE, Int.reduceLT, Int.reduceEq, ↓reduceIte, idx_sl hp, Int.natCast_nonneg, Int.toNat_natCast, ha', hb', Place.v, hpp, he, hf, hw, c1, c2, c3, c4.1, c4.2]
      exact ⟨by rfl, by simp [canPP, c4]⟩
    have c5 : canPP place into a b = if a.dist ≠ b.dist then 25 else if a.name ≠ [] ∧ b.name ≠ [] ∧ a.name ≠ b.name then 24 else 0 := by
      simp only [canPP]
      rw [if_neg]
      rintro (h | h | h | h) <;> contradiction
    rw [c5]
    by_cases c6 : a.dist = b.dist
    case neg =>
      by_cases c7 : a.weight = b.weight
      · have c8 : ¬ a.id < b.id := fun h => c4 ⟨c7, h⟩
        rw [c7] at c3
        simp only [go_sem, Nat.reduceAdd, Nat.reduceSub, Nat.reduceMul, Nat.reduceEqDiff, Nat.reduceLT, Nat.reduceLeDiff, Nat.reduceBEq, reduceCtorEq, Int.reduceToNat, Int.reduceAdd, Int.reduceSub, Int.reduceMul, Int.reduceNeg, Int.reduceLE, Int.reduceLT, Int.reduceEq, ↓reduceIte, idx_sl hp, Int.natCast_nonneg, Int.toNat_natCast, ha', hb', Place.v, hpp, he, hf, hw, c1, c2, c3, c7, c8, c6]
        rfl
      · simp only [go_sem, Nat.reduceAdd, Nat.reduceSub, Nat.reduceMul, Nat.reduceEqDiff, Nat.reduceLT, Nat.reduceLeDiff, Nat.reduceBEq, reduceCtorEq, Int.reduceToNat, Int.reduceAdd, Int.reduceSub, Int.reduceMul, Int.reduceNeg, Int.reduceLE, Int.reduceLT, Int.reduceEq, ↓reduceIte, idx_sl hp, Int.natCast_nonneg, Int.toNat_natCast, ha', hb', Place.v, hpp, he, hf, hw, c1, c2, c3, c7, c6]
        rfl
    by_cases n1 : a.name = []
    case pos =>
      by_cases c7 : a.weight = b.weight
      · have c8 : ¬ a.id < b.id := fun h => c4 ⟨c7, h⟩
        rw [c7] at c3
        simp only [go_sem, Nat.reduceAdd, Nat.reduceSub, Nat.reduceMul, Nat.reduceEqDiff, Nat.reduceLT, Nat.reduceLeDiff, Nat.reduceBEq, reduceCtorEq, Int.reduceToNat, Int.reduceAdd, Int.reduceSub, Int.reduceMul, Int.reduceNeg, Int.reduceLE, Int.reduceLT, Int.reduceEq, ↓reduceIte, idx_sl hp, Int.natCast_nonneg, Int.toNat_natCast, ha', hb', Place.v, hpp, he, hf, hw, c1, c2, c3, c7, c8, c6, n1]
        rfl
      · simp only [go_sem, Nat.reduceAdd, Nat.reduceSub, Nat.reduceMul, Nat.reduceEqDiff, Nat.reduceLT, Nat.reduceLeDiff, Nat.reduceBEq, reduceCtorEq, Int.reduceToNat, Int.reduceAdd, Int.reduceSub, Int.reduceMul, Int.reduceNeg, Int.reduceLE, Int.reduceLT, Int.reduceEq, ↓reduceIte, idx_sl hp, Int.natCast_nonneg, Int.toNat_natCast, ha', hb', Place.v, hpp, he, hf, hw, c1, c2, c3, c7, c6, n1]
        rfl
    by_cases n2 : b.name = []
    case pos =>
      by_cases c7 : a.weight = b.weight
      · have c8 : ¬ a.id < b.id := fun h => c4 ⟨c7, h⟩
        rw [c7] at c3
        simp only [go_sem, Nat.reduceAdd, Nat.reduceSub, Nat.reduceMul, Nat.reduceEqDiff, Nat.reduceLT, Nat.reduceLeDiff, Nat.reduceBEq, reduceCtorEq, Int.reduceToNat, Int.reduceAdd, Int.reduceSub, Int.reduceMul, Int.reduceNeg, Int.reduceLE, Int.reduceLT, Int.reduceEq, ↓reduceIte, idx_sl hp, Int.natCast_nonneg, Int.toNat_natCast, ha', hb', Place.v, hpp, he, hf, hw, c1, c2, c3, c7, c8, c6, n1, n2]
        rfl
      · simp only [go_sem, Nat.reduceAdd, Nat.reduceSub, Nat.reduceMul, Nat.reduceEqDiff, Nat.reduceLT, Nat.reduceLeDiff, Nat.reduceBEq, reduceCtorEq, Int.reduceToNat, Int.reduceAdd, Int.reduceSub, Int.reduceMul, Int.reduceNeg, Int.reduceLE, Int.reduceLT, Int.reduceEq, ↓reduceIte, idx_sl hp, Int.natCast_nonneg, Int.toNat_natCast, ha', hb', Place.v, hpp, he, hf, hw, c1, c2, c3, c7, c6, n1, n2]
        rfl
    by_cases n3 : a.name = b.name
    all_goals
      by_cases c7 : a.weight = b.weight
      · have c8 : ¬ a.id < b.id := fun h => c4 ⟨c7, h⟩
        rw [c7] at c3
        simp only [go_sem, Nat.reduceAdd, Nat.reduceSub, Nat.reduceMul, Nat.reduceEqDiff, Nat.reduceLT, Nat.reduceLeDiff, Nat.reduceBEq, reduceCtorEq, Int.reduceToNat, Int.reduceAdd, Int.reduceSub, Int.reduceMul, Int.reduceNeg, Int.reduceLE, Int.reduceLT, Int.reduceEq, ↓reduceIte, idx_sl hp, Int.natCast_nonneg, Int.toNat_natCast, ha', hb', Place.v, hpp, he, hf, hw, c1, c2, c3, c7, c8, c6, n1, n2, n3]
        rfl
      · simp only [go_sem, Nat.reduceAdd, Nat.reduceSub, Nat.reduceMul, Nat.reduceEqDiff, Nat.reduceLT, Nat.reduceLeDiff, Nat.reduceBEq, reduceCtorEq, Int.reduceToNat, Int.reduceAdd, Int.reduceSub, Int.reduceMul, Int.reduceNeg, Int.reduceLE, Int.reduceLT, Int.reduceEq, ↓reduceIte, idx_sl hp, Int.natCast_nonneg, Int.toNat_natCast, ha', hb', Place.v, hpp, he, hf, hw, c1, c2, c3, c7, c6, n1, n2, n3]
        rfl
  · simp only [go_sem, Nat.reduceAdd, Nat.reduceSub, Nat.reduceMul, Nat.reduceEqDiff, Nat.reduceLT, Nat.reduceLeDiff, Nat.reduceBEq, reduceCtorEq, Int.reduceToNat, Int.reduceAdd, Int.reduceSub, Int.reduceMul, Int.reduceNeg, Int.reduceLE, Int.reduceLT, Int.reduceEq, ↓reduceIte, h, he, hf, hw, hpp]
    simp [canP, h]
end Go.AM
