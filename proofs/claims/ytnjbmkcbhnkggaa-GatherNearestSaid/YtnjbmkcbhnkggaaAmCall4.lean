/-
  Calls: back at the caller. Own work.
-/
import Derived.Test.YtnjbmkcbhnkggaaAmCall3
set_option linter.unusedSimpArgs false
namespace Go.AM
open Go Go.RowKit

/-! ## what was read is frozen -/
theorem freezeAll_sound {X : Ctx} {C : Oracle} {T : Nat → V} {w : World} {φ : Nat → Row} : ∀ (rs : List Nat) {O : Nat → Obj} {k : Act} {p : V × St}, Objs X ⟨w, φ, O⟩ → (freezeAll rs k).run C ⟨T, O⟩ = some p →
    ∃ O', k.run C ⟨T, O'⟩ = some p ∧ Le ⟨w, φ, O⟩ ⟨w, φ, O'⟩ ∧ Objs X ⟨w, φ, O'⟩ ∧ (∀ r, r ∉ rs → O' r = O r) ∧ (∀ r, r ∈ rs → O' r = { O r with fz := true })
  | [], O, k, p, ho, h => ⟨O, h, Le.refl _, ho, fun _ _ => rfl, fun r hr => by simp at hr⟩
  | q :: rs, O, k, p, ho, h => by
    simp only [freezeAll, Act.run] at h
    obtain ⟨l1, o1⟩ := freeze_obj ho q
    obtain ⟨O', h1, h2, h3, h4, h5⟩ := freezeAll_sound rs o1 h
    refine ⟨O', h1, l1.trans h2, h3, fun r hr => ?_, fun r hr => ?_⟩
    · have hr' : r ≠ q ∧ r ∉ rs := by simpa using hr
      rw [h4 r hr'.2, upd_ne _ _ hr'.1]
    · by_cases hm : r ∈ rs
      · rw [h5 r hm]
        by_cases e : r = q
        · subst e; simp [upd_same]
        · simp [upd_ne _ _ e]
      · have e : r = q := by
          rcases List.mem_cons.1 hr with e | hr
          · exact e
          · exact absurd hr hm
        subst e
        rw [h4 r hm, upd_same]

/-! ## views that differ in who owns what -/
section
variable {X X' : Ctx} {μ μ' : Mu}
mutual
theorem weaken (hX : X'.toTrEnv = X.toTrEnv) (hw : μ'.w = μ.w) (hφ : μ'.φ = μ.φ) (hO : ∀ r, (μ'.O r).gen = (μ.O r).gen ∧ (μ'.O r).sz = (μ.O r).sz) (ho : ∀ b, Own X' μ' b → Own X μ b) : ∀ {x : V} {v : Value}, VRel X μ x v → VRel X' μ' x v
  | .bool _, _, h | .int .., _, h | .float _, _, h | .str _, _, h | .nilp, _, h | .nilfn, _, h | .nili, _, h | .nils, _, h => by simpa [VRel] using h
  | .any, _, _ => by simp [VRel]
  | .own .., _, h | .msl .., _, h | .mptr .., _, h => by simp [VRel] at h
  | .agg cs, _, h => by
    simp only [VRel] at h ⊢
    obtain ⟨h1, vs, rfl, h2⟩ := h
    exact ⟨h1, vs, rfl, weakens hX hw hφ hO ho h2⟩
  | .tuple cs, _, h => by
    simp only [VRel] at h ⊢
    obtain ⟨vs, rfl, h2⟩ := h
    exact ⟨vs, rfl, weakens hX hw hφ hO ho h2⟩
  | .fn f cs, _, h => by
    simp only [VRel] at h ⊢
    obtain ⟨F, cv, rfl, h1, h2⟩ := h
    exact ⟨F, cv, rfl, by rw [hX]; exact h1, weakens hX hw hφ hO ho h2⟩
  | .iface t x, _, h => by
    simp only [VRel] at h ⊢
    obtain ⟨F, y, rfl, h1, h2⟩ := h
    exact ⟨F, y, rfl, by rw [hX]; exact h1, weaken hX hw hφ hO ho h2⟩
  | .lit sz xs, _, h => by
    simp only [VRel] at h ⊢
    obtain ⟨h0, h0', a, cap, vs, rfl, h1, h2, h3⟩ := h
    refine ⟨h0, h0', a, cap, vs, rfl, h1, weakens hX hw hφ hO ho h2, h3.imp id ?_⟩
    rintro ⟨b, o, rfl, hb, hs, hr⟩
    exact ⟨b, o, rfl, fun hh => hb (ho b hh), by rw [hw]; exact hs, by rw [hw]; exact hr⟩
  | .sl r g off len, _, h => by
    simp only [VRel] at h ⊢
    rw [hφ, (hO r).1, (hO r).2]; exact h
  | .ptr r g idx off, _, h => by
    simp only [VRel] at h ⊢
    rw [hφ, (hO r).1, (hO r).2]; exact h
  | .eptr e off, _, h => by
    simp only [VRel] at h ⊢
    obtain ⟨h0, h0', b, o, sz, x, rfl, hb, hs, h1, hr⟩ := h
    exact ⟨h0, h0', b, o, sz, x, rfl, fun hh => hb (ho b hh), by rw [hw]; exact hs, weaken hX hw hφ hO ho h1, by rw [hw]; exact hr⟩
theorem weakens (hX : X'.toTrEnv = X.toTrEnv) (hw : μ'.w = μ.w) (hφ : μ'.φ = μ.φ) (hO : ∀ r, (μ'.O r).gen = (μ.O r).gen ∧ (μ'.O r).sz = (μ.O r).sz) (ho : ∀ b, Own X' μ' b → Own X μ b) : ∀ {xs : List V} {vs : List Value}, VRels X μ xs vs → VRels X' μ' xs vs
  | [], [], _ => by simp [VRels]
  | [], _ :: _, h => by simp [VRels] at h
  | _ :: _, [], h => by simp [VRels] at h
  | x :: xs, v :: vs, h => by
    simp only [VRels] at h ⊢
    exact ⟨weaken hX hw hφ hO ho h.1, weakens hX hw hφ hO ho h.2⟩
end
mutual
/-- what holds no slice knows of no memory -/
theorem scalar_transfer (hX : X'.toTrEnv = X.toTrEnv) : ∀ {x : V} {v : Value}, V.isScalar x = true → VRel X μ x v → VRel X' μ' x v
  | .bool _, _, _, h | .int .., _, _, h | .float _, _, _, h | .str _, _, _, h | .nilp, _, _, h | .nilfn, _, _, h | .nili, _, _, h | .nils, _, _, h => by simpa [VRel] using h
  | .any, _, hp, _ | .own .., _, hp, _ | .msl .., _, hp, _ | .mptr .., _, hp, _ | .sl .., _, hp, _ | .ptr .., _, hp, _ | .lit .., _, hp, _ | .eptr .., _, hp, _ | .fn .., _, hp, _ | .iface .., _, hp, _ => by simp [V.isScalar] at hp
  | .agg cs, _, hp, h => by
    simp only [VRel] at h ⊢
    obtain ⟨h1, vs, rfl, h2⟩ := h
    exact ⟨h1, vs, rfl, scalars_transfer hX (by simpa [V.isScalar] using hp) h2⟩
  | .tuple cs, _, hp, h => by
    simp only [VRel] at h ⊢
    obtain ⟨vs, rfl, h2⟩ := h
    exact ⟨vs, rfl, scalars_transfer hX (by simpa [V.isScalar] using hp) h2⟩
theorem scalars_transfer (hX : X'.toTrEnv = X.toTrEnv) : ∀ {xs : List V} {vs : List Value}, V.areScalar xs = true → VRels X μ xs vs → VRels X' μ' xs vs
  | [], [], _, _ => by simp [VRels]
  | [], _ :: _, _, h => by simp [VRels] at h
  | _ :: _, [], _, h => by simp [VRels] at h
  | x :: xs, v :: vs, hp, h => by
    simp only [VRels] at h ⊢
    simp only [V.areScalar, Bool.and_eq_true] at hp
    exact ⟨scalar_transfer hX hp.1 h.1, scalars_transfer hX hp.2 h.2⟩
end
end

/-! ## the callee's objects become the caller's -/

/-- slot 'r' of the caller's has what the callee's object 'j' is (or a part of it) -/
structure Took (Y : Ctx) (μf μ1 : Mu) (r j : Nat) (row : Row) (o : Obj) : Prop where
  es : ∃ es, o.es = some es ∧ V.arePure es = true ∧ 0 < o.sz ∧ es.length ≤ row.cap ∧ es.all (isBlank · o.sz) = true ∧
    (row.cap = 0 ∨ ∃ c T vs, μ1.w.heap[row.blk]? = some (.cells c T (0, 0)) ∧ row.base + row.cap * o.sz ≤ c.size ∧ VRels Y μ1 es vs ∧ RowAt μ1.w row.blk row.base o.sz vs)
  live : (μ1.O j).es.isSome = true ∧ (μ1.O j).fz = false
  blk : row.cap ≠ 0 → (μ1.φ j).cap ≠ 0 ∧ row.blk = (μ1.φ j).blk
  gen : (μf.O r).gen < o.gen ∨ (o.gen = (μf.O r).gen ∧ row = μf.φ r ∧ o.sz = (μf.O r).sz)
  sc : (∀ es, (μ1.O j).es = some es → V.areScalar es = true) → ∀ es, o.es = some es → V.areScalar es = true

structure Taken (Y : Ctx) (μf μ1 : Mu) (U : Nat → Prop) (A : Nat → Option Nat) (φ : Nat → Row) (O : Nat → Obj) : Prop where
  non : ∀ r, A r = none → O r = μf.O r ∧ φ r = μf.φ r
  som : ∀ r j, A r = some j → Took Y μf μ1 r j (φ r) (O r) ∧ U j
  inj : ∀ r1 r2 j, A r1 = some j → A r2 = some j → r1 = r2

def GMono (φ : Nat → Row) (O : Nat → Obj) (φ' : Nat → Row) (O' : Nat → Obj) : Prop :=
  ∀ r, (O r).gen ≤ (O' r).gen ∧ ((O' r).gen = (O r).gen → φ' r = φ r ∧ (O' r).sz = (O r).sz)
theorem GMono.refl (φ : Nat → Row) (O : Nat → Obj) : GMono φ O φ O := fun _ => ⟨Nat.le_refl _, fun _ => ⟨rfl, rfl⟩⟩
theorem GMono.trans {φ φ' φ'' : Nat → Row} {O O' O'' : Nat → Obj} (h : GMono φ O φ' O') (k : GMono φ' O' φ'' O'') : GMono φ O φ'' O'' := fun r => by
  obtain ⟨h1, h2⟩ := h r
  obtain ⟨k1, k2⟩ := k r
  refine ⟨Nat.le_trans h1 k1, fun e => ?_⟩
  obtain ⟨a1, a2⟩ := h2 (by omega)
  obtain ⟨b1, b2⟩ := k2 (by omega)
  exact ⟨b1.trans a1, b2.trans a2⟩

def RefOk (μ1 : Mu) (φ : Nat → Row) (O : Nat → Obj) (i r g : Nat) : Prop := g ≤ (O r).gen ∧ ((O r).gen = g → φ r = μ1.φ i ∧ (O r).sz = (μ1.O i).sz)
theorem RefOk.mono {μ1 : Mu} {φ φ' : Nat → Row} {O O' : Nat → Obj} {i r g : Nat} (h : RefOk μ1 φ O i r g) (m : GMono φ O φ' O') : RefOk μ1 φ' O' i r g := by
  obtain ⟨m1, m2⟩ := m r
  refine ⟨Nat.le_trans h.1 m1, fun e => ?_⟩
  have := h.1
  obtain ⟨a1, a2⟩ := m2 (by omega)
  obtain ⟨b1, b2⟩ := h.2 (by omega)
  exact ⟨a1.trans b1, a2.trans b2⟩

theorem Taken.take {Y : Ctx} {μf μ1 : Mu} {U U' : Nat → Prop} {A : Nat → Option Nat} {φ : Nat → Row} {O : Nat → Obj} (h : Taken Y μf μ1 U A φ O) {r j : Nat} {row : Row} {o : Obj} (hj : ¬ U j) (hU : ∀ i, U i → U' i) (hUj : U' j)
    (ht : Took Y μf μ1 r j row o) : Taken Y μf μ1 U' (upd A r (some j)) (upd φ r row) (upd O r o) where
  non := fun r' e => by
    by_cases e' : r' = r
    · subst e'; simp [upd_same] at e
    · rw [upd_ne _ _ e'] at e ⊢; rw [upd_ne _ _ e']; exact h.non r' e
  som := fun r' j' e => by
    by_cases e' : r' = r
    · subst e'; simp only [upd_same] at e ⊢; injection e with e; subst e; exact ⟨ht, hUj⟩
    · rw [upd_ne _ _ e'] at e ⊢; rw [upd_ne _ _ e']
      obtain ⟨k1, k2⟩ := h.som r' j' e
      exact ⟨k1, hU _ k2⟩
  inj := fun r1 r2 j' e1 e2 => by
    by_cases q1 : r1 = r <;> by_cases q2 : r2 = r
    · rw [q1, q2]
    · subst q1
      simp only [upd_same] at e1; injection e1 with e1; subst e1
      rw [upd_ne _ _ q2] at e2
      exact absurd (h.som r2 _ e2).2 hj
    · subst q2
      simp only [upd_same] at e2; injection e2 with e2; subst e2
      rw [upd_ne _ _ q1] at e1
      exact absurd (h.som r1 _ e1).2 hj
    · rw [upd_ne _ _ q1] at e1
      rw [upd_ne _ _ q2] at e2
      exact h.inj r1 r2 j' e1 e2

theorem GMono.upd {φ : Nat → Row} {O : Nat → Obj} {r : Nat} {row : Row} {o : Obj} (h : (O r).gen < o.gen ∨ (o.gen = (O r).gen ∧ row = φ r ∧ o.sz = (O r).sz)) : GMono φ O (upd φ r row) (upd O r o) := fun r' => by
  by_cases e : r' = r
  · subst e
    simp only [upd_same]
    rcases h with h | ⟨h1, h2, h3⟩
    · exact ⟨by omega, fun e => by omega⟩
    · exact ⟨by omega, fun _ => ⟨h2, h3⟩⟩
  · simp [upd_ne _ _ e]

end Go.AM
