/-
  The steps of a view: a new object, a written one, a frozen one, a draw. Own work.
-/
import Derived.Test.YtnjbmkcbhnkggaaAmRel
import Derived.Laws.Tables
import Derived.Laws.CopyRow
namespace Go.AM
open Go Go.RowKit

theorem upd_same {α : Type} (f : Nat → α) (t : Nat) (v : α) : upd f t v t = v := by simp [upd]
theorem upd_ne {α : Type} (f : Nat → α) {t n : Nat} (v : α) (h : n ≠ t) : upd f t v n = f n := by simp [upd, h]

theorem RowAt.of_block {w : World} {b off sz : Nat} {vs : List Value} {c : Array Value} {T : TypeId} {fr : Nat × Nat} (hb : w.heap[b]? = some (.cells c T fr))
    (h : ∀ i v, vs[i]? = some v → v.cells.size = sz ∧ ∀ j x, v.cells[j]? = some x → c[off + i * sz + j]? = some x) : RowAt w b off sz vs := by
  intro i v hv
  obtain ⟨h1, h2⟩ := h i v hv
  refine ⟨h1, fun j x hx => ?_⟩
  simp [World.cell?, hb, h2 j x hx]

theorem RowAt.in_block {w : World} {b off sz : Nat} {vs : List Value} {c : Array Value} {T : TypeId} {fr : Nat × Nat} (hb : w.heap[b]? = some (.cells c T fr))
    (h : RowAt w b off sz vs) : ∀ i v, vs[i]? = some v → v.cells.size = sz ∧ ∀ j x, v.cells[j]? = some x → c[off + i * sz + j]? = some x := by
  intro i v hv
  obtain ⟨h1, h2⟩ := h i v hv
  refine ⟨h1, fun j x hx => ?_⟩
  have := h2 j x hx
  simpa [World.cell?, hb] using this

/-- nothing but the object's own record turns: its block is given up or kept -/
theorem own_upd_sub {μ : Mu} {r : Nat} {o : Obj} {w' : World} (h : o.es.isSome = true → o.fz = false → (μ.O r).es.isSome = true ∧ (μ.O r).fz = false) {b : Nat}
    (hb : (⟨w', μ.φ, upd μ.O r o⟩ : Mu).own b) : μ.own b := by
  obtain ⟨r', h1, h2, h3, h4⟩ := hb
  by_cases e : r' = r
  · subst e
    simp only [upd_same] at h1 h2
    obtain ⟨k1, k2⟩ := h h1 h2
    exact ⟨r', k1, k2, h3, h4⟩
  · simp only [upd_ne _ _ e] at h1 h2
    exact ⟨r', h1, h2, h3, h4⟩

theorem Objs.of_le_same {X : Ctx} {μ μ' : Mu} (ho : Objs X μ) (le : Le μ μ') (hO : μ'.O = μ.O) (hφ : μ'.φ = μ.φ)
    (hb : ∀ b, b < μ.w.heap.size → μ'.w.heap[b]? = μ.w.heap[b]?) : Objs X μ' where
  ok := fun r es hes => by
    rw [hO] at hes
    obtain ⟨h1, h2, h3, h4⟩ := ho.ok r es hes
    rw [hO, hφ]
    refine ⟨h1, h2, h3, h4.imp id ?_⟩
    rintro ⟨c, T, vs, k1, k2, k3, k4⟩
    have hlt : (μ.φ r).blk < μ.w.heap.size := (Array.getElem?_eq_some_iff.1 k1).1
    exact ⟨c, T, vs, by rw [hb _ hlt]; exact k1, k2, VRels.mono le k3, k4.keep (hb _ hlt)⟩
  inj := by unfold Inj; rw [hO, hφ]; exact ho.inj
  nob := by rw [hO, hφ]; exact ho.nob
  blt := fun b hb => Nat.lt_of_lt_of_le (ho.blt b hb) le.size

theorem Le.drew {X : Ctx} {μ : Mu} (ho : Objs X μ) : Le μ ⟨μ.w.drew, μ.φ, μ.O⟩ ∧ Objs X ⟨μ.w.drew, μ.φ, μ.O⟩ := by
  have le : Le μ ⟨μ.w.drew, μ.φ, μ.O⟩ :=
    ⟨Nat.le_refl _, fun _ _ h => ⟨rfl, h⟩, fun _ => Nat.le_refl _, fun _ _ => ⟨rfl, rfl⟩, rfl, rfl, rfl, fun _ _ => rfl, fun a h => frozen_out (w := μ.w.drew) h⟩
  exact ⟨le, ho.of_le_same le rfl rfl fun _ _ => rfl⟩

theorem new_obj {X : Ctx} {μ : Mu} (ho : Objs X μ) (r sz cap : Nat) (arr : Bool) {es : List V} {vs : List Value} {c : Array Value} (T : TypeId) (hsz : 0 < sz)
    (hcap : es.length ≤ cap) (hbl : es.all (isBlank · sz) = true) (hrel : VRels X μ es vs) (hc : cap * sz ≤ c.size)
    (hrow : ∀ i v, vs[i]? = some v → v.cells.size = sz ∧ ∀ j x, v.cells[j]? = some x → c[i * sz + j]? = some x) :
    let μ' : Mu := ⟨μ.w.alloc (.cells c T (0, 0)), upd μ.φ r ⟨μ.w.heap.size, 0, cap⟩, upd μ.O r { gen := (μ.O r).gen + 1, sz := sz, arr := arr, fz := false, es := some es }⟩
    Le μ μ' ∧ Objs X μ' := by
  intro μ'
  have hheap : ∀ b, b < μ.w.heap.size → μ'.w.heap[b]? = μ.w.heap[b]? := fun b hb => heap_alloc_old _ _ _ hb
  have hsize : μ'.w.heap.size = μ.w.heap.size + 1 := Array.size_push _
  have hnew : μ'.w.heap[μ.w.heap.size]? = some (.cells c T (0, 0)) := heap_alloc_new _ _
  have le : Le μ μ' := by
    refine ⟨by omega, fun b hb hno => ⟨hheap b hb, ?_⟩, fun r' => ?_, fun r' e => ?_, rfl, rfl, rfl, fun a ha => ?_, fun a ha => ?_⟩
    · rintro ⟨r', h1, h2, h3, h4⟩
      by_cases e : r' = r
      · subst e
        simp only [μ', upd_same] at h4
        omega
      · simp only [μ', upd_ne _ _ e] at h1 h2 h3 h4
        exact hno ⟨r', h1, h2, h3, h4⟩
    · by_cases e : r' = r
      · subst e; simp [μ', upd_same]
      · simp [μ', upd_ne _ _ e]
    · by_cases e' : r' = r
      · subst e'; simp [μ', upd_same] at e
      · simp [μ', upd_ne _ _ e']
    · simp only [World.frozen?, hheap a.block ha]
    · by_cases e : a.block = μ.w.heap.size
      · simp only [World.frozen?, e, hnew]
        simp
      · exact frozen_out (by omega)
  refine ⟨le, fun r' es' hes' => ?_, fun r1 r2 hne h1 h2 h3 h4 => ?_, fun r' h1 h2 hb => ?_, fun b hb => Nat.lt_of_lt_of_le (ho.blt b hb) le.size⟩
  rotate_left 2
  · by_cases e : r' = r
    · subst e
      simp only [μ', upd_same] at hb
      have := ho.blt _ hb
      omega
    · simp only [μ', upd_ne _ _ e] at h1 h2 hb
      exact ho.nob r' h1 h2 hb
  · by_cases e : r' = r
    · subst e
      simp only [μ', upd_same] at hes' ⊢
      injection hes' with hes'
      subst hes'
      refine ⟨hsz, hcap, hbl, .inr ⟨c, T, vs, hnew, by simpa using hc, VRels.mono le hrel, RowAt.of_block hnew ?_⟩⟩
      simpa using hrow
    · have hO : μ'.O r' = μ.O r' := by simp [μ', upd_ne _ _ e]
      have hφ : μ'.φ r' = μ.φ r' := by simp [μ', upd_ne _ _ e]
      rw [hO] at hes'
      obtain ⟨k1, k2, k3, k4⟩ := ho.ok r' es' hes'
      rw [hO, hφ]
      refine ⟨k1, k2, k3, k4.imp id ?_⟩
      rintro ⟨c', T', vs', q1, q2, q3, q4⟩
      have hlt : (μ.φ r').blk < μ.w.heap.size := (Array.getElem?_eq_some_iff.1 q1).1
      exact ⟨c', T', vs', by rw [hheap _ hlt]; exact q1, q2, VRels.mono le q3, q4.keep (hheap _ hlt)⟩
  · have hold : ∀ r', r' ≠ r → (μ.O r').es.isSome = true → (μ.φ r').cap ≠ 0 → (μ.φ r').blk < μ.w.heap.size := fun r' _ hs hc' => by
      obtain ⟨es', he⟩ := Option.isSome_iff_exists.1 hs
      obtain ⟨_, _, _, k4⟩ := ho.ok r' es' he
      rcases k4 with k4 | ⟨_, _, _, q1, _⟩
      · exact absurd k4 hc'
      · exact (Array.getElem?_eq_some_iff.1 q1).1
    by_cases e1 : r1 = r
    · subst e1
      have e2 : r2 ≠ r1 := fun e => hne e.symm
      simp only [μ', upd_same, upd_ne _ _ e2] at h1 h2 h3 h4 ⊢
      have := hold r2 e2 h2 h4
      omega
    · by_cases e2 : r2 = r
      · subst e2
        simp only [μ', upd_same, upd_ne _ _ e1] at h1 h2 h3 h4 ⊢
        have := hold r1 e1 h1 h3
        omega
      · simp only [μ', upd_ne _ _ e1, upd_ne _ _ e2] at h1 h2 h3 h4 ⊢
        exact ho.inj r1 r2 hne h1 h2 h3 h4

theorem write_obj {X : Ctx} {μ : Mu} (ho : Objs X μ) (r : Nat) {es : List V} {c : Array Value} {T : TypeId} (hes : (μ.O r).es = some es) (hfz : (μ.O r).fz = false)
    (hb : μ.w.heap[(μ.φ r).blk]? = some (.cells c T (0, 0))) (hc0 : (μ.φ r).cap ≠ 0)
    {c' : Array Value} (hc : c'.size = c.size) (gen' base' cap' : Nat) {es' : List V} {vs' : List Value}
    (hg : (gen' = (μ.O r).gen ∧ base' = (μ.φ r).base ∧ cap' = (μ.φ r).cap) ∨ (μ.O r).gen < gen') (hcap' : cap' ≠ 0)
    (hlen : es'.length ≤ cap') (hbl : es'.all (isBlank · (μ.O r).sz) = true) (hrel : VRels X μ es' vs') (hroom : base' + cap' * (μ.O r).sz ≤ c.size)
    (hrow : ∀ i v, vs'[i]? = some v → v.cells.size = (μ.O r).sz ∧ ∀ j x, v.cells[j]? = some x → c'[base' + i * (μ.O r).sz + j]? = some x) :
    let μ' : Mu := ⟨μ.w.setRow (μ.φ r).blk c', upd μ.φ r ⟨(μ.φ r).blk, base', cap'⟩, upd μ.O r { μ.O r with gen := gen', es := some es' }⟩
    Le μ μ' ∧ Objs X μ' := by
  intro μ'
  have hnew : μ'.w.heap[(μ.φ r).blk]? = some (.cells c' T (0, 0)) := setRow_heap _ _ _ _ _ _ hb
  have hother : ∀ b, b ≠ (μ.φ r).blk → μ'.w.heap[b]? = μ.w.heap[b]? := fun b hne => setRow_other _ _ _ _ hne
  have hsize : μ'.w.heap.size = μ.w.heap.size := by simp [μ', World.setRow]
  have hlt : (μ.φ r).blk < μ.w.heap.size := (Array.getElem?_eq_some_iff.1 hb).1
  have hown : μ.own (μ.φ r).blk := ⟨r, by simp [hes], hfz, hc0, rfl⟩
  have le : Le μ μ' := by
    refine ⟨by omega, fun b hb' hno => ⟨hother b (fun e => hno (e ▸ hown)), ?_⟩, fun r' => ?_, fun r' e => ?_, rfl, rfl, rfl, fun a ha => ?_, fun a ha => frozen_out (by omega)⟩
    · rintro ⟨r', h1, h2, h3, h4⟩
      by_cases e : r' = r
      · subst e
        simp only [μ', upd_same] at h4
        exact hno (h4 ▸ hown)
      · simp only [μ', upd_ne _ _ e] at h1 h2 h3 h4
        exact hno ⟨r', h1, h2, h3, h4⟩
    · by_cases e : r' = r
      · subst e; simp only [μ', upd_same]; omega
      · simp [μ', upd_ne _ _ e]
    · by_cases e' : r' = r
      · subst e'
        simp only [μ', upd_same] at e ⊢
        rcases hg with ⟨_, g2, g3⟩ | hg
        · subst g2; subst g3; exact ⟨rfl, trivial⟩
        · omega
      · simp [μ', upd_ne _ _ e']
    · by_cases e : a.block = (μ.φ r).blk
      · simp only [World.frozen?, e, hnew, hb]
      · simp only [World.frozen?, hother _ e]
  refine ⟨le, fun r' es2 hes2 => ?_, fun r1 r2 hne h1 h2 h3 h4 => ?_, fun r' h1 h2 hb => ?_, fun b hb => Nat.lt_of_lt_of_le (ho.blt b hb) le.size⟩
  rotate_left 2
  · by_cases e : r' = r
    · subst e
      simp only [μ', upd_same] at hb
      exact ho.nob r' (by simp [hes]) hc0 hb
    · simp only [μ', upd_ne _ _ e] at h1 h2 hb
      exact ho.nob r' h1 h2 hb
  · by_cases e : r' = r
    · subst e
      have hsz := (ho.ok r' es hes).1
      simp only [μ', upd_same] at hes2 ⊢
      injection hes2 with hes2
      subst hes2
      exact ⟨hsz, hlen, hbl, .inr ⟨c', T, vs', hnew, by omega, VRels.mono le hrel, RowAt.of_block hnew hrow⟩⟩
    · have hO : μ'.O r' = μ.O r' := by simp [μ', upd_ne _ _ e]
      have hφ : μ'.φ r' = μ.φ r' := by simp [μ', upd_ne _ _ e]
      rw [hO] at hes2
      obtain ⟨k1, k2, k3, k4⟩ := ho.ok r' es2 hes2
      rw [hO, hφ]
      refine ⟨k1, k2, k3, ?_⟩
      by_cases hcr : (μ.φ r').cap = 0
      · exact .inl hcr
      · rcases k4 with k4 | ⟨c2, T2, vs2, q1, q2, q3, q4⟩
        · exact absurd k4 hcr
        · have hne : (μ.φ r').blk ≠ (μ.φ r).blk := ho.inj r' r e (by simp [hes2]) (by simp [hes]) hcr hc0
          exact .inr ⟨c2, T2, vs2, by rw [hother _ hne]; exact q1, q2, VRels.mono le q3, q4.keep (hother _ hne)⟩
  · have hs : ∀ x, (μ'.O x).es.isSome = true → (μ.O x).es.isSome = true := fun x hx => by
      by_cases e : x = r
      · subst e; simp [hes]
      · simpa [μ', upd_ne _ _ e] using hx
    have hc1 : ∀ x, (μ'.φ x).cap ≠ 0 → (μ.φ x).cap ≠ 0 := fun x hx => by
      by_cases e : x = r
      · subst e; exact hc0
      · simpa [μ', upd_ne _ _ e] using hx
    have hb1 : ∀ x, (μ'.φ x).blk = (μ.φ x).blk := fun x => by
      by_cases e : x = r
      · subst e; simp [μ', upd_same]
      · simp [μ', upd_ne _ _ e]
    rw [hb1, hb1]
    exact ho.inj r1 r2 hne (hs _ h1) (hs _ h2) (hc1 _ h3) (hc1 _ h4)

theorem freeze_obj {X : Ctx} {μ : Mu} (ho : Objs X μ) (r : Nat) :
    let μ' : Mu := ⟨μ.w, μ.φ, upd μ.O r { μ.O r with fz := true }⟩
    Le μ μ' ∧ Objs X μ' := by
  intro μ'
  have hgen : ∀ x, (μ'.O x).gen = (μ.O x).gen ∧ (μ'.O x).sz = (μ.O x).sz ∧ (μ'.O x).es = (μ.O x).es := fun x => by
    by_cases e : x = r
    · subst e; simp [μ', upd_same]
    · simp [μ', upd_ne _ _ e]
  have le : Le μ μ' :=
    ⟨Nat.le_refl _, fun b hb h => ⟨rfl, fun hb' => h (own_upd_sub (r := r) (w' := μ.w) (by simp) hb')⟩, fun x => by rw [(hgen x).1]; exact Nat.le_refl _, fun x _ => ⟨rfl, (hgen x).2.1⟩, rfl, rfl, rfl, fun _ _ => rfl, fun a h => frozen_out (w := μ.w) h⟩
  refine ⟨le, fun x es hes => ?_, fun r1 r2 hne h1 h2 h3 h4 => ?_, fun x h1 h2 hb => ho.nob x (by rw [(hgen x).2.2] at h1; exact h1) h2 hb, ho.blt⟩
  · rw [(hgen x).2.2] at hes
    obtain ⟨k1, k2, k3, k4⟩ := ho.ok x es hes
    rw [(hgen x).2.1]
    refine ⟨k1, k2, k3, k4.imp id ?_⟩
    rintro ⟨c, T, vs, q1, q2, q3, q4⟩
    exact ⟨c, T, vs, q1, q2, VRels.mono le q3, q4⟩
  · rw [(hgen r1).2.2] at h1
    rw [(hgen r2).2.2] at h2
    exact ho.inj r1 r2 hne h1 h2 h3 h4

end Go.AM
