/-
  hachureref12.Same: two lists of events. Own work.
-/
import Derived.Test.YtnjbmkcbhnkggaaAmData
set_option linter.unusedSimpArgs false
namespace Go.AM

theorem same_ev {l1 l2 : List Event} {v1 v2 : V} (h1 : IsSl 5 (l1.map Event.v) v1) (h2 : IsSl 5 (l2.map Event.v) v2) (hlen : l1.length ≤ 1000000) : Ev E 10 [v1, v2] ⟨.bool (decide (l1 = l2)), []⟩ := by
  have hp1 := h1.pure
  have hp2 := h2.pure
  refine Ev.of_wpc E_10 (X_10 _) rfl ?_
  rw [enter_pure (by simp [V.arePure, *]), f10_b]
  by_cases hl : (l1.length : Int) = l2.length
  case neg =>
    have : ¬ l1 = l2 := by rintro rfl; exact hl rfl
    simp only [go_sem, Nat.reduceAdd, Nat.reduceSub, Nat.reduceMul, Nat.reduceEqDiff, Nat.reduceLT, Nat.reduceLeDiff, Nat.reduceBEq, reduceCtorEq, Int.reduceToNat, Int.reduceAdd, Int.reduceSub, Int.reduceMul, Int.reduceNeg, Int.reduceLE, Int.reduceLT, Int.reduceEq, ↓reduceIte, len_sl h1, len_sl h2, List.length_map, hl, hp1, hp2, this]
  simp only [go_sem, Nat.reduceAdd, Nat.reduceSub, Nat.reduceMul, Nat.reduceEqDiff, Nat.reduceLT, Nat.reduceLeDiff, Nat.reduceBEq, reduceCtorEq, Int.reduceToNat, Int.reduceAdd, Int.reduceSub, Int.reduceMul, Int.reduceNeg, Int.reduceLE, Int.reduceLT, Int.reduceEq, ↓reduceIte, len_sl h1, len_sl h2, List.length_map, hl]
  refine wpc_loop_of (fun m σ => ∃ i : Nat, m = l1.length - i ∧ i ≤ l1.length ∧ l1.take i = l2.take i ∧ σ.T 0 = v1 ∧ σ.T 1 = v2 ∧ σ.T 5 = .int .i64 i) ?_ l1.length _ ?_
  case refine_2 => exact ⟨0, by simp, by simp, by simp, by simp only [go_sem, Nat.reduceAdd, Nat.reduceSub, Nat.reduceMul, Nat.reduceEqDiff, Nat.reduceLT, Nat.reduceLeDiff, Nat.reduceBEq, reduceCtorEq, Int.reduceToNat, Int.reduceAdd, Int.reduceSub, Int.reduceMul, Int.reduceNeg, Int.reduceLE, Int.reduceLT, Int.reduceEq, ↓reduceIte], by simp only [go_sem, Nat.reduceAdd, Nat.reduceSub, Nat.reduceMul, Nat.reduceEqDiff, Nat.reduceLT, Nat.reduceLeDiff, Nat.reduceBEq, reduceCtorEq, Int.reduceToNat, Int.reduceAdd, Int.reduceSub, Int.reduceMul, Int.reduceNeg, Int.reduceLE, Int.reduceLT, Int.reduceEq, ↓reduceIte], by (first | assumption | rfl | omega | (simp; done) | (simp; omega) | ((simp only [go_sem, Nat.reduceAdd, Nat.reduceSub, Nat.reduceMul, Nat.reduceEqDiff, Nat.reduceLT, Nat.reduceLeDiff, Nat.reduceBEq, reduceCtorEq, Int.reduceToNat, Int.reduceAdd, Int.reduceSub, Int.reduceMul, Int.reduceNeg, Int.reduceLE, Int.reduceLT, Int.reduceEq, ↓reduceIte]); done) | ((simp only [go_sem, Nat.reduceAdd, Nat.reduceSub, Nat.reduceMul, Nat.reduceEqDiff, Nat.reduceLT, Nat.reduceLeDiff, Nat.reduceBEq, reduceCtorEq, Int.reduceToNat, Int.reduceAdd, Int.reduceSub, Int.reduceMul, Int.reduceNeg, Int.reduceLE, Int.reduceLT, Int.reduceEq, ↓reduceIte]); simp; done) | ((simp only [go_sem, Nat.reduceAdd, Nat.reduceSub, Nat.reduceMul, Nat.reduceEqDiff, Nat.reduceLT, Nat.reduceLeDiff, Nat.reduceBEq, reduceCtorEq, Int.reduceToNat, Int.reduceAdd, Int.reduceSub, Int.reduceMul, Int.reduceNeg, Int.reduceLE, Int.reduceLT, Int.reduceEq, ↓reduceIte]); omega))⟩
  rintro m σ ⟨i, rfl, hi, htk, ht0, ht1, ht5⟩
  have hl' : l1.length = l2.length := by omega
  by_cases hlt : i < l1.length
  · obtain ⟨a, ha⟩ : ∃ a, l1[i]? = some a := ⟨_, List.getElem?_eq_getElem hlt⟩
    obtain ⟨b, hb⟩ : ∃ b, l2[i]? = some b := ⟨_, List.getElem?_eq_getElem (by omega)⟩
    have ha' : (l1.map Event.v)[i]? = some a.v := by simp [ha]
    have hb' : (l2.map Event.v)[i]? = some b.v := by simp [hb]
    have hw := wrap64 (n := (i : Int) + 1) (by omega) (by omega)
    simp only [go_sem, Nat.reduceAdd, Nat.reduceSub, Nat.reduceMul, Nat.reduceEqDiff, Nat.reduceLT, Nat.reduceLeDiff, Nat.reduceBEq, reduceCtorEq, Int.reduceToNat, Int.reduceAdd, Int.reduceSub, Int.reduceMul, Int.reduceNeg, Int.reduceLE, Int.reduceLT, Int.reduceEq, ↓reduceIte, ht0, ht1, ht5, len_sl h1, List.length_map, hlt]
    refine wpc_drawn_of ?_
    by_cases hab : a = b
    · subst hab
      simp only [go_sem, Nat.reduceAdd, Nat.reduceSub, Nat.reduceMul, Nat.reduceEqDiff, Nat.reduceLT, Nat.reduceLeDiff, Nat.reduceBEq, reduceCtorEq, Int.reduceToNat, Int.reduceAdd, Int.reduceSub, Int.reduceMul, Int.reduceNeg, Int.reduceLE, Int.reduceLT, Int.reduceEq, ↓reduceIte, ht0, ht1, ht5, idx_sl h1, idx_sl h2, ha', hb', Event.v, hw]
      refine ⟨by rfl, l1.length - (i + 1), by omega, i + 1, rfl, by omega, ?_, rfl⟩
      rw [List.take_add_one, List.take_add_one, htk, ha, hb]
    · have hne : ¬ l1 = l2 := by rintro rfl; rw [ha] at hb; injection hb with hb; exact hab hb
      by_cases c1 : a.kind = b.kind
      case neg => simp only [go_sem, Nat.reduceAdd, Nat.reduceSub, Nat.reduceMul, Nat.reduceEqDiff, Nat.reduceLT, Nat.reduceLeDiff, Nat.reduceBEq, reduceCtorEq, Int.reduceToNat, Int.reduceAdd, Int.reduceSub, Int.reduceMul, Int.reduceNeg, Int.reduceLE, Int.reduceLT, Int.reduceEq, ↓reduceIte, ht0, ht1, ht5, idx_sl h1, idx_sl h2, ha', hb', Event.v, hw, hp1, hp2, hne, c1]; rfl
      by_cases c2 : a.at_ = b.at_
      case neg => simp only [go_sem, Nat.reduceAdd, Nat.reduceSub, Nat.reduceMul, Nat.reduceEqDiff, Nat.reduceLT, Nat.reduceLeDiff, Nat.reduceBEq, reduceCtorEq, Int.reduceToNat, Int.reduceAdd, Int.reduceSub, Int.reduceMul, Int.reduceNeg, Int.reduceLE, Int.reduceLT, Int.reduceEq, ↓reduceIte, ht0, ht1, ht5, idx_sl h1, idx_sl h2, ha', hb', Event.v, hw, hp1, hp2, hne, c1, c2]; rfl
      by_cases c3 : a.id = b.id
      case neg => simp only [go_sem, Nat.reduceAdd, Nat.reduceSub, Nat.reduceMul, Nat.reduceEqDiff, Nat.reduceLT, Nat.reduceLeDiff, Nat.reduceBEq, reduceCtorEq, Int.reduceToNat, Int.reduceAdd, Int.reduceSub, Int.reduceMul, Int.reduceNeg, Int.reduceLE, Int.reduceLT, Int.reduceEq, ↓reduceIte, ht0, ht1, ht5, idx_sl h1, idx_sl h2, ha', hb', Event.v, hw, hp1, hp2, hne, c1, c2, c3]; rfl
      by_cases c4 : a.other = b.other
      case neg => simp only [go_sem, Nat.reduceAdd, Nat.reduceSub, Nat.reduceMul, Nat.reduceEqDiff, Nat.reduceLT, Nat.reduceLeDiff, Nat.reduceBEq, reduceCtorEq, Int.reduceToNat, Int.reduceAdd, Int.reduceSub, Int.reduceMul, Int.reduceNeg, Int.reduceLE, Int.reduceLT, Int.reduceEq, ↓reduceIte, ht0, ht1, ht5, idx_sl h1, idx_sl h2, ha', hb', Event.v, hw, hp1, hp2, hne, c1, c2, c3, c4]; rfl
      by_cases c5 : a.n = b.n
      case neg => simp only [go_sem, Nat.reduceAdd, Nat.reduceSub, Nat.reduceMul, Nat.reduceEqDiff, Nat.reduceLT, Nat.reduceLeDiff, Nat.reduceBEq, reduceCtorEq, Int.reduceToNat, Int.reduceAdd, Int.reduceSub, Int.reduceMul, Int.reduceNeg, Int.reduceLE, Int.reduceLT, Int.reduceEq, ↓reduceIte, ht0, ht1, ht5, idx_sl h1, idx_sl h2, ha', hb', Event.v, hw, hp1, hp2, hne, c1, c2, c3, c4, c5]; rfl
      exfalso
      apply hab
      cases a; cases b; simp_all
  · obtain rfl : i = l1.length := by omega
    have he : l1 = l2 := by rw [List.take_length] at htk; rw [htk, hl', List.take_length]
    subst he
    simp only [go_sem, Nat.reduceAdd, Nat.reduceSub, Nat.reduceMul, Nat.reduceEqDiff, Nat.reduceLT, Nat.reduceLeDiff, Nat.reduceBEq, reduceCtorEq, Int.reduceToNat, Int.reduceAdd, Int.reduceSub, Int.reduceMul, Int.reduceNeg, Int.reduceLE, Int.reduceLT, Int.reduceEq, ↓reduceIte, ht0, ht1, ht5, len_sl h1, List.length_map, hlt, hp1, hp2]
end Go.AM
