/-
  Rows of cells: writing one stretch. Own work.
-/
import Derived.Test.YtnjbmkcbhnkggaaAmOps4
set_option linter.unusedSimpArgs false
namespace Go.AM
open Go Go.RowKit

def splice {α : Type} (L : List α) (p : Nat) (m : List α) : List α := L.take p ++ m ++ L.drop (p + m.length)

theorem splice_length {α : Type} {L m : List α} {p : Nat} (h : p + m.length ≤ L.length) : (splice L p m).length = L.length := by
  simp [splice]; omega

theorem splice_get {α : Type} {L m : List α} {p : Nat} (h : p + m.length ≤ L.length) (q : Nat) :
    (splice L p m)[q]? = if q < p then L[q]? else if q < p + m.length then m[q - p]? else L[q]? := by
  unfold splice
  rw [List.append_assoc, List.getElem?_append]
  have hl : (L.take p).length = p := by simp; omega
  rw [hl]
  split
  · rename_i hq
    rw [List.getElem?_take]; simp [hq]
  · rename_i hq
    rw [List.getElem?_append]
    split
    · rename_i hm
      rw [if_pos (by omega)]
    · rename_i hm
      rw [if_neg (by omega), List.getElem?_drop]
      congr 1; omega

/-- the elements that a stretch of cells spells -/
def Spells (c : List Value) (base sz : Nat) (vs : List Value) : Prop :=
  ∀ i v, vs[i]? = some v → v.cells.size = sz ∧ ∀ j x, v.cells[j]? = some x → c[base + i * sz + j]? = some x

def flat (us : List Value) : List Value := us.flatMap fun v => v.cells.toList

theorem flat_length {us : List Value} {sz : Nat} (h : ∀ v ∈ us, v.cells.size = sz) : (flat us).length = us.length * sz := by
  induction us with
  | nil => simp [flat]
  | cons u us ih =>
    have h1 := h u (by simp)
    have h2 := ih fun v hv => h v (by simp [hv])
    simp only [flat, List.flatMap_cons, List.length_append, List.length_cons] at h2 ⊢
    rw [h2, Array.length_toList, h1, Nat.add_mul]; omega

theorem flat_get {us : List Value} {sz : Nat} (h : ∀ v ∈ us, v.cells.size = sz) {i j : Nat} {v x : Value} (hv : us[i]? = some v) (hx : v.cells[j]? = some x) :
    (flat us)[i * sz + j]? = some x := by
  induction us generalizing i with
  | nil => simp at hv
  | cons u us ih =>
    have h1 := h u (by simp)
    simp only [flat, List.flatMap_cons]
    cases i with
    | zero =>
      simp at hv; subst hv
      have hj : j < u.cells.size := (Array.getElem?_eq_some_iff.1 hx).1
      rw [List.getElem?_append_left (by rw [Array.length_toList]; omega)]
      simpa using hx
    | succ i =>
      simp at hv
      have := ih (fun v hv => h v (by simp [hv])) hv
      rw [List.getElem?_append_right (by rw [Array.length_toList, h1, Nat.add_mul]; omega)]
      rw [Array.length_toList, h1]
      have e : (i + 1) * sz + j - sz = i * sz + j := by rw [Nat.add_mul]; omega
      rw [e]; exact this

theorem cell_lt {sz i j k : Nat} (hj : j < sz) (hik : i < k) : i * sz + j < k * sz := by
  have : (i + 1) * sz ≤ k * sz := Nat.mul_le_mul_right _ (by omega)
  rw [Nat.add_mul] at this; omega
theorem cell_ge {sz i j k : Nat} (hik : k ≤ i) : k * sz ≤ i * sz + j := by
  have : k * sz ≤ i * sz := Nat.mul_le_mul_right _ hik
  omega

theorem Spells.write {c : List Value} {base sz k : Nat} {vs us : List Value} (h : Spells c base sz vs) (hk : k ≤ vs.length) (hus : ∀ v ∈ us, v.cells.size = sz)
    (hroom : base + k * sz + us.length * sz ≤ c.length) :
    Spells (splice c (base + k * sz) (flat us)) base sz (vs.take k ++ us ++ vs.drop (k + us.length)) := by
  have hfl := flat_length hus
  intro i v hv
  have hlt : (vs.take k).length = k := by simp; omega
  rw [List.append_assoc, List.getElem?_append, hlt] at hv
  split at hv
  · rename_i hi
    rw [List.getElem?_take] at hv
    simp only [hi, if_true] at hv
    obtain ⟨h1, h2⟩ := h i v hv
    refine ⟨h1, fun j x hx => ?_⟩
    have hj : j < sz := h1 ▸ (Array.getElem?_eq_some_iff.1 hx).1
    rw [splice_get (by rw [hfl]; omega), if_pos (by have := cell_lt hj hi; omega)]
    exact h2 j x hx
  · rename_i hi
    rw [List.getElem?_append] at hv
    split at hv
    · rename_i hi2
      have hvm := List.mem_of_getElem? hv
      refine ⟨hus v hvm, fun j x hx => ?_⟩
      have hj : j < sz := hus v hvm ▸ (Array.getElem?_eq_some_iff.1 hx).1
      have hge := cell_ge (sz := sz) (j := j) (show k ≤ i by omega)
      have hlt2 := cell_lt (k := k + us.length) hj (show i < k + us.length by omega)
      rw [Nat.add_mul] at hlt2
      rw [splice_get (by rw [hfl]; omega), if_neg (by omega), if_pos (by rw [hfl]; omega)]
      have e : base + i * sz + j - (base + k * sz) = (i - k) * sz + j := by
        rw [Nat.sub_mul]
        have := Nat.mul_le_mul_right sz (show k ≤ i by omega)
        omega
      rw [e]
      exact flat_get hus hv hx
    · rename_i hi2
      rw [List.getElem?_drop] at hv
      have e : k + us.length + (i - k - us.length) = i := by omega
      rw [e] at hv
      obtain ⟨h1, h2⟩ := h i v hv
      refine ⟨h1, fun j x hx => ?_⟩
      have hge := cell_ge (sz := sz) (j := j) (show k + us.length ≤ i by omega)
      rw [Nat.add_mul] at hge
      rw [splice_get (by rw [hfl]; omega), if_neg (by omega), if_neg (by rw [hfl]; omega)]
      exact h2 j x hx

theorem Spells.take {c : List Value} {base sz : Nat} {vs : List Value} (h : Spells c base sz vs) (n : Nat) : Spells c base sz (vs.take n) := by
  intro i v hv
  rw [List.getElem?_take] at hv
  split at hv
  · exact h i v hv
  · simp at hv
theorem Spells.drop {c : List Value} {base sz : Nat} {vs : List Value} (h : Spells c base sz vs) (n : Nat) : Spells c (base + n * sz) sz (vs.drop n) := by
  intro i v hv
  rw [List.getElem?_drop] at hv
  obtain ⟨h1, h2⟩ := h (n + i) v hv
  refine ⟨h1, fun j x hx => ?_⟩
  rw [← h2 j x hx, Nat.add_mul]
  congr 1; omega

/-- one element's part is written -/
theorem Spells.put {c : List Value} {base sz idx off : Nat} {vs m : List Value} {x x' : Value} (h : Spells c base sz vs) (hx : vs[idx]? = some x)
    (hroom : base + (idx + 1) * sz ≤ c.length) (hm : off + m.length ≤ sz) (hx' : x'.cells.toList = splice x.cells.toList off m) :
    Spells (splice c (base + idx * sz + off) m) base sz (vs.set idx x') := by
  have hsz := (h idx x hx).1
  rw [Nat.add_mul] at hroom
  have hfit : base + idx * sz + off + m.length ≤ c.length := by omega
  have hxl : off + m.length ≤ x.cells.toList.length := by have : x.cells.toList.length = x.cells.size := Array.length_toList; omega
  intro i v hv
  rw [List.getElem?_set] at hv
  split at hv
  · rename_i e; subst e
    have hlt : idx < vs.length := (List.getElem?_eq_some_iff.1 hx).1
    simp only [hlt, if_true, Option.some.injEq] at hv
    subst hv
    have hsz' : x'.cells.size = sz := by rw [← Array.length_toList, hx', splice_length hxl, Array.length_toList]; exact hsz
    refine ⟨hsz', fun j y hy => ?_⟩
    have hj : j < sz := hsz' ▸ (Array.getElem?_eq_some_iff.1 hy).1
    have hy' : (splice x.cells.toList off m)[j]? = some y := by rw [← hx']; simpa using hy
    rw [splice_get hxl] at hy'
    rw [splice_get hfit]
    have e2 : base + idx * sz + j - (base + idx * sz + off) = j - off := by omega
    split at hy'
    · rw [if_pos (by omega)]
      exact (h idx x hx).2 j y (by simpa using hy')
    · split at hy'
      · rw [if_neg (by omega), if_pos (by omega), e2]; exact hy'
      · rw [if_neg (by omega), if_neg (by omega)]
        exact (h idx x hx).2 j y (by simpa using hy')
  · rename_i hne
    obtain ⟨h1, h2⟩ := h i v hv
    refine ⟨h1, fun j y hy => ?_⟩
    have hj : j < sz := h1 ▸ (Array.getElem?_eq_some_iff.1 hy).1
    rw [splice_get hfit]
    by_cases hlt : i < idx
    · have := cell_lt hj hlt
      rw [if_pos (by omega)]; exact h2 j y hy
    · have := cell_ge (sz := sz) (j := j) (show idx + 1 ≤ i by omega)
      rw [Nat.add_mul] at this
      rw [if_neg (by omega), if_neg (by omega)]; exact h2 j y hy

theorem spells_of_row {w : World} {b base sz : Nat} {vs : List Value} {c : Array Value} {T : TypeId} {fr : Nat × Nat} (hb : w.heap[b]? = some (.cells c T fr))
    (h : RowAt w b base sz vs) : Spells c.toList base sz vs := by
  intro i v hv
  obtain ⟨h1, h2⟩ := h.in_block hb i v hv
  exact ⟨h1, fun j x hx => by simpa using h2 j x hx⟩

/-- reading a row's cells in one go -/
theorem load_flat {P : Program} {w : World} {b q sz n : Nat} {vs : List Value} (h : RowAt w b q sz vs) (hn : n ≤ vs.length) :
    (loadCells ⟨b, q, none⟩ (n * sz)).run P w = .ok (flat (vs.take n)).toArray w := by
  have hs : ∀ v ∈ vs.take n, v.cells.size = sz := fun v hv => by
    obtain ⟨i, hi⟩ := List.getElem?_of_mem (List.mem_of_mem_take hv)
    exact (h i v hi).1
  have hl : (flat (vs.take n)).length = n * sz := by rw [flat_length hs, List.length_take, Nat.min_eq_left hn]
  rw [← hl]
  refine run_loadCells_list w ⟨b, q, none⟩ _ fun p x hx => ?_
  rw [addr_add]
  have hp : p < n * sz := by rw [← hl]; exact (List.getElem?_eq_some_iff.1 hx).1
  have hsz : 0 < sz := by
    rcases Nat.eq_zero_or_pos sz with e | e
    · subst e; simp at hp
    · exact e
  have hi : p / sz < n := Nat.div_lt_of_lt_mul (by rw [Nat.mul_comm]; exact hp)
  have hpe : p / sz * sz + p % sz = p := by rw [Nat.mul_comm]; exact Nat.div_add_mod p sz
  have hilt : p / sz < vs.length := by omega
  have hv : vs[p / sz]? = some vs[p / sz] := List.getElem?_eq_getElem hilt
  have hvt : (vs.take n)[p / sz]? = some vs[p / sz] := by rw [List.getElem?_take]; simp [hi, hv]
  obtain ⟨h1, h2⟩ := h _ _ hv
  have hm : p % sz < (vs[p / sz]).cells.size := by rw [h1]; exact Nat.mod_lt _ hsz
  have hc : (vs[p / sz]).cells[p % sz]? = some (vs[p / sz]).cells[p % sz] := Array.getElem?_eq_getElem hm
  have g1 := flat_get hs hvt hc
  rw [hpe, hx] at g1
  injection g1 with g1
  have g2 := h2 _ _ hc
  rw [Nat.add_assoc, hpe, ← g1] at g2
  exact g2

end Go.AM
