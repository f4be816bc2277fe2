/-
  hachurelaw15: what GatherOne says, in plain words. Own work.
-/
import Derived.Test.YtnjbmkcbhnkggaaAmGatherB
set_option linter.unusedSimpArgs false
namespace Go.AM

theorem findP_ids {qs : List Place} (h : ∀ (i : Nat) (q : Place), qs[i]? = some q → q.id = i) {i : Nat} (hi : i < qs.length) : findP qs i = i := by
  unfold findP
  refine firstIdx_found (x := qs[i]) ?_ (List.getElem?_eq_getElem hi) ?_
  · intro j y hj hy
    have := h j y hy
    simp; omega
  · have := h i _ (List.getElem?_eq_getElem hi)
    simpa using this

theorem canP_at {qs : List Place} (h : ∀ (i : Nat) (q : Place), qs[i]? = some q → q.id = i) {j k : Nat} {p q : Place} (hp : qs[j]? = some p) (hq : qs[k]? = some q) : canP qs j k = canPP j k p q := by
  have hj := (List.getElem?_eq_some_iff.1 hp).1
  have hk := (List.getElem?_eq_some_iff.1 hq).1
  unfold canP
  rw [findP_ids h hj, findP_ids h hk, if_pos ⟨by omega, by omega⟩]
  simp [hp, hq]

theorem one_law {qs : List Place} (h : ∀ (i : Nat) (q : Place), qs[i]? = some q → q.id = i) {j k : Nat} {p q : Place} (hp : qs[j]? = some p) (hq : qs[k]? = some q) (h0 : canP qs j k = 0) :
    j ≠ k ∧ p.cls = q.cls ∧ p.dist = q.dist ∧ canP qs k j ≠ 0 := by
  rw [canP_at h hp hq] at h0
  rw [canP_at h hq hp]
  have ep := h _ _ hp
  have eq := h _ _ hq
  unfold canPP at h0 ⊢
  split at h0
  · simp at h0
  · rename_i hn
    split at h0
    · simp at h0
    · rename_i hd
      simp only [not_or] at hn
      obtain ⟨n1, n2, n3, n4⟩ := hn
      refine ⟨by omega, by simpa using n2, by simpa using hd, ?_⟩
      rw [if_pos]
      · simp
      · by_cases hw : p.weight < q.weight
        · exact .inr (.inr (.inl hw))
        · exact .inr (.inr (.inr ⟨by omega, by omega⟩))

theorem apply_get {ps : List Place} {j k : Nat} {a b : Place} (hk : k < ps.length) (hne : j ≠ k) : (applyP ps j k a b)[if j < k then k - 1 else k]? = some (joinP a b) := by
  unfold applyP
  by_cases h : j < k
  · rw [if_pos h, List.getElem?_eraseIdx]
    rw [if_neg (by omega)]
    have : k - 1 + 1 = k := by omega
    rw [this, List.getElem?_set_self hk]
  · rw [if_neg h, List.getElem?_eraseIdx, if_pos (by omega), List.getElem?_set_self hk]
theorem apply_len {ps : List Place} {j k : Nat} {a b : Place} (hj : j < ps.length) : (applyP ps j k a b).length = ps.length - 1 := by
  unfold applyP
  rw [List.length_eraseIdx_of_lt (by simpa using hj), List.length_set]
end Go.AM
