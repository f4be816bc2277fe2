/-
  cmp.Compare, cmp.Or of ints; exact.Sqrt. Own work.
-/
import Derived.Test.YtnjbmkcbhnkggaaAmFns
import Derived.Test.YtnjbmkcbhnkggaaAmSqrt
set_option linter.unusedSimpArgs false
namespace Go.AM

theorem isNaN_ev (x : Int) : Ev E 36 [.int .i64 x] ⟨.bool false, []⟩ := by
  refine Ev.of_wpc E_36 (X_36 _) rfl ?_
  rw [enter_pure (by rfl), f36_b]
  simp only [go_sem, Nat.reduceAdd, Nat.reduceSub, Nat.reduceMul, Nat.reduceEqDiff, Nat.reduceLT, Nat.reduceLeDiff, Nat.reduceBEq, reduceCtorEq, Int.reduceToNat, Int.reduceAdd, Int.reduceSub, Int.reduceMul, Int.reduceNeg, Int.reduceLE, Int.reduceLT, Int.reduceEq, ↓reduceIte]

def cmpI (x y : Int) : Int := if x < y then -1 else if y < x then 1 else 0

theorem compare_ev (x y : Int) : Ev E 23 [.int .i64 x, .int .i64 y] ⟨.int .i64 (cmpI x y), []⟩ := by
  refine Ev.of_wpc E_23 (X_23 _) rfl ?_
  rw [enter_pure (by rfl), f23_b]
  simp only [go_sem, Nat.reduceAdd, Nat.reduceSub, Nat.reduceMul, Nat.reduceEqDiff, Nat.reduceLT, Nat.reduceLeDiff, Nat.reduceBEq, reduceCtorEq, Int.reduceToNat, Int.reduceAdd, Int.reduceSub, Int.reduceMul, Int.reduceNeg, Int.reduceLE, Int.reduceLT, Int.reduceEq, ↓reduceIte]
  refine wpa_pure E_36 rfl (by rfl) (isNaN_ev x) ?_
  simp only [go_sem, Nat.reduceAdd, Nat.reduceSub, Nat.reduceMul, Nat.reduceEqDiff, Nat.reduceLT, Nat.reduceLeDiff, Nat.reduceBEq, reduceCtorEq, Int.reduceToNat, Int.reduceAdd, Int.reduceSub, Int.reduceMul, Int.reduceNeg, Int.reduceLE, Int.reduceLT, Int.reduceEq, ↓reduceIte]
  refine wpa_pure E_36 rfl (by rfl) (isNaN_ev y) ?_
  by_cases h1 : x < y
  · simp only [go_sem, Nat.reduceAdd, Nat.reduceSub, Nat.reduceMul, Nat.reduceEqDiff, Nat.reduceLT, Nat.reduceLeDiff, Nat.reduceBEq, reduceCtorEq, Int.reduceToNat, Int.reduceAdd, Int.reduceSub, Int.reduceMul, Int.reduceNeg, Int.reduceLE, Int.reduceLT, Int.reduceEq, ↓reduceIte, h1, cmpI]
  · by_cases h2 : y < x
    · simp only [go_sem, Nat.reduceAdd, Nat.reduceSub, Nat.reduceMul, Nat.reduceEqDiff, Nat.reduceLT, Nat.reduceLeDiff, Nat.reduceBEq, reduceCtorEq, Int.reduceToNat, Int.reduceAdd, Int.reduceSub, Int.reduceMul, Int.reduceNeg, Int.reduceLE, Int.reduceLT, Int.reduceEq, ↓reduceIte, h1, h2, cmpI]
    · simp only [go_sem, Nat.reduceAdd, Nat.reduceSub, Nat.reduceMul, Nat.reduceEqDiff, Nat.reduceLT, Nat.reduceLeDiff, Nat.reduceBEq, reduceCtorEq, Int.reduceToNat, Int.reduceAdd, Int.reduceSub, Int.reduceMul, Int.reduceNeg, Int.reduceLE, Int.reduceLT, Int.reduceEq, ↓reduceIte, h1, h2, cmpI]

def orI (a b : Int) : Int := if a = 0 then b else a
theorem orI_ev (a b : Int) : Ev E 22 [.lit 1 [.int .i64 a, .int .i64 b]] ⟨.int .i64 (orI a b), []⟩ := by
  refine Ev.of_wpc E_22 (X_22 _) rfl ?_
  rw [enter_pure (by rfl), f22_b]
  simp only [go_sem, Nat.reduceAdd, Nat.reduceSub, Nat.reduceMul, Nat.reduceEqDiff, Nat.reduceLT, Nat.reduceLeDiff, Nat.reduceBEq, reduceCtorEq, Int.reduceToNat, Int.reduceAdd, Int.reduceSub, Int.reduceMul, Int.reduceNeg, Int.reduceLE, Int.reduceLT, Int.reduceEq, ↓reduceIte]
  rw [wpc_loop]
  by_cases ha : a = 0
  · simp only [go_sem, Nat.reduceAdd, Nat.reduceSub, Nat.reduceMul, Nat.reduceEqDiff, Nat.reduceLT, Nat.reduceLeDiff, Nat.reduceBEq, reduceCtorEq, Int.reduceToNat, Int.reduceAdd, Int.reduceSub, Int.reduceMul, Int.reduceNeg, Int.reduceLE, Int.reduceLT, Int.reduceEq, ↓reduceIte, ha]
    rw [wpc_loop]
    simp only [go_sem, Nat.reduceAdd, Nat.reduceSub, Nat.reduceMul, Nat.reduceEqDiff, Nat.reduceLT, Nat.reduceLeDiff, Nat.reduceBEq, reduceCtorEq, Int.reduceToNat, Int.reduceAdd, Int.reduceSub, Int.reduceMul, Int.reduceNeg, Int.reduceLE, Int.reduceLT, Int.reduceEq, ↓reduceIte]
    by_cases hb : b = 0
    · simp only [go_sem, Nat.reduceAdd, Nat.reduceSub, Nat.reduceMul, Nat.reduceEqDiff, Nat.reduceLT, Nat.reduceLeDiff, Nat.reduceBEq, reduceCtorEq, Int.reduceToNat, Int.reduceAdd, Int.reduceSub, Int.reduceMul, Int.reduceNeg, Int.reduceLE, Int.reduceLT, Int.reduceEq, ↓reduceIte, hb]
      rw [wpc_loop]
      simp only [go_sem, Nat.reduceAdd, Nat.reduceSub, Nat.reduceMul, Nat.reduceEqDiff, Nat.reduceLT, Nat.reduceLeDiff, Nat.reduceBEq, reduceCtorEq, Int.reduceToNat, Int.reduceAdd, Int.reduceSub, Int.reduceMul, Int.reduceNeg, Int.reduceLE, Int.reduceLT, Int.reduceEq, ↓reduceIte]
      simp [orI, ha, hb]
    · simp only [go_sem, Nat.reduceAdd, Nat.reduceSub, Nat.reduceMul, Nat.reduceEqDiff, Nat.reduceLT, Nat.reduceLeDiff, Nat.reduceBEq, reduceCtorEq, Int.reduceToNat, Int.reduceAdd, Int.reduceSub, Int.reduceMul, Int.reduceNeg, Int.reduceLE, Int.reduceLT, Int.reduceEq, ↓reduceIte, hb]
      simp [orI, ha]
  · simp only [go_sem, Nat.reduceAdd, Nat.reduceSub, Nat.reduceMul, Nat.reduceEqDiff, Nat.reduceLT, Nat.reduceLeDiff, Nat.reduceBEq, reduceCtorEq, Int.reduceToNat, Int.reduceAdd, Int.reduceSub, Int.reduceMul, Int.reduceNeg, Int.reduceLE, Int.reduceLT, Int.reduceEq, ↓reduceIte, ha]
    simp [orI, ha]

/-! ### the square root -/
def IsSqrt (n s : Int) : Prop := 0 ≤ s ∧ s * s ≤ n ∧ n < (s + 1) * (s + 1)
theorem sq_mono {a b : Int} (h0 : 0 ≤ a) (h : a ≤ b) : a * a ≤ b * b := Int.mul_le_mul h h h0 (by omega)
theorem IsSqrt.uniq {n s t : Int} (h : IsSqrt n s) (k : IsSqrt n t) : s = t := by
  obtain ⟨h1, h2, h3⟩ := h
  obtain ⟨k1, k2, k3⟩ := k
  rcases Int.lt_trichotomy s t with hl | hl | hl
  · have := sq_mono (a := s + 1) (b := t) (by omega) (by omega); omega
  · exact hl
  · have := sq_mono (a := t + 1) (b := s) (by omega) (by omega); omega

theorem mathSqrt_ev {b r : Nat} (h : FloatKind.f64.format.sqrt b = some r) : Ev E 41 [.float b] ⟨.float r, []⟩ := by
  refine Ev.of_wpc E_41 (X_41 _) rfl ?_
  rw [enter_pure (by rfl), f41_b]
  simp only [go_sem, Nat.reduceAdd, Nat.reduceSub, Nat.reduceMul, Nat.reduceEqDiff, Nat.reduceLT, Nat.reduceLeDiff, Nat.reduceBEq, reduceCtorEq, Int.reduceToNat, Int.reduceAdd, Int.reduceSub, Int.reduceMul, Int.reduceNeg, Int.reduceLE, Int.reduceLT, Int.reduceEq, ↓reduceIte]
  have hsq : Ev E 52 [.float b] ⟨.float r, []⟩ := Ev.ext (by rw [X_52]; simp [sqrtV, h])
  refine wpa_ext E_52 (by rfl) hsq ?_
  simp only [go_sem, Nat.reduceAdd, Nat.reduceSub, Nat.reduceMul, Nat.reduceEqDiff, Nat.reduceLT, Nat.reduceLeDiff, Nat.reduceBEq, reduceCtorEq, Int.reduceToNat, Int.reduceAdd, Int.reduceSub, Int.reduceMul, Int.reduceNeg, Int.reduceLE, Int.reduceLT, Int.reduceEq, ↓reduceIte]

theorem sqrt_neg {n : Int} (h : n ≤ 0) : Ev E 27 [.int .i64 n] ⟨.int .i64 0, []⟩ := by
  refine Ev.of_wpc E_27 (X_27 _) rfl ?_
  rw [enter_pure (by rfl), f27_b]
  simp only [go_sem, Nat.reduceAdd, Nat.reduceSub, Nat.reduceMul, Nat.reduceEqDiff, Nat.reduceLT, Nat.reduceLeDiff, Nat.reduceBEq, reduceCtorEq, Int.reduceToNat, Int.reduceAdd, Int.reduceSub, Int.reduceMul, Int.reduceNeg, Int.reduceLE, Int.reduceLT, Int.reduceEq, ↓reduceIte, h]

theorem sqrt_pos {n : Int} (h0 : 0 < n) (h1 : n ≤ 9223372036854775807) : ∃ res, (∃ s, IsSqrt n s ∧ res = ⟨.int .i64 s, []⟩) ∧ Ev E 27 [.int .i64 n] res := by
  obtain ⟨r, m, hr, hm, hm0, hm1⟩ := sqrt_int h0 h1
  refine Ev.of_wpc_ex E_27 (X_27 _) rfl ?_
  rw [enter_pure (by rfl), f27_b]
  have hn : ¬ n ≤ 0 := by omega
  simp only [go_sem, Nat.reduceAdd, Nat.reduceSub, Nat.reduceMul, Nat.reduceEqDiff, Nat.reduceLT, Nat.reduceLeDiff, Nat.reduceBEq, reduceCtorEq, Int.reduceToNat, Int.reduceAdd, Int.reduceSub, Int.reduceMul, Int.reduceNeg, Int.reduceLE, Int.reduceLT, Int.reduceEq, ↓reduceIte, hn]
  refine wpa_pure E_41 rfl (by rfl) (mathSqrt_ev hr) ?_
  have e1 : IntKind.i64.min ≤ m := by simp [IntKind.min, IntKind.signed, IntKind.bits]; omega
  have e2 : m ≤ IntKind.i64.max := by simp [IntKind.max, IntKind.signed, IntKind.bits]; omega
  simp only [go_sem, Nat.reduceAdd, Nat.reduceSub, Nat.reduceMul, Nat.reduceEqDiff, Nat.reduceLT, Nat.reduceLeDiff, Nat.reduceBEq, reduceCtorEq, Int.reduceToNat, Int.reduceAdd, Int.reduceSub, Int.reduceMul, Int.reduceNeg, Int.reduceLE, Int.reduceLT, Int.reduceEq, ↓reduceIte, hm, e1, e2]
  generalize hs0 : (if 3037000499 < m then (3037000499 : Int) else m) = s0
  have hb0 : 0 ≤ s0 ∧ s0 ≤ 3037000499 := by split at hs0 <;> omega
  clear hs0
  refine wpc_loop_of (fun k σ => ∃ s : Int, k = s.toNat ∧ 0 ≤ s ∧ s ≤ 3037000499 ∧ σ.T 0 = .int .i64 n ∧ σ.T 3 = .int .i64 s) ?_ s0.toNat _ ?_
  case refine_2 => exact ⟨s0, rfl, hb0.1, hb0.2, by simp only [go_sem, Nat.reduceAdd, Nat.reduceSub, Nat.reduceMul, Nat.reduceEqDiff, Nat.reduceLT, Nat.reduceLeDiff, Nat.reduceBEq, reduceCtorEq, Int.reduceToNat, Int.reduceAdd, Int.reduceSub, Int.reduceMul, Int.reduceNeg, Int.reduceLE, Int.reduceLT, Int.reduceEq, ↓reduceIte], by simp only [go_sem, Nat.reduceAdd, Nat.reduceSub, Nat.reduceMul, Nat.reduceEqDiff, Nat.reduceLT, Nat.reduceLeDiff, Nat.reduceBEq, reduceCtorEq, Int.reduceToNat, Int.reduceAdd, Int.reduceSub, Int.reduceMul, Int.reduceNeg, Int.reduceLE, Int.reduceLT, Int.reduceEq, ↓reduceIte]⟩
  rintro k σ ⟨s, rfl, hs1, hs2, h0', h3⟩
  have hsq := sq_mono hs1 hs2
  have hsq0 : 0 ≤ s * s := Int.mul_nonneg hs1 hs1
  have hw := wrap64 (n := s * s) (by omega) (by omega)
  by_cases hgt : n < s * s
  · have hsp : 0 < s := by
      rcases Int.lt_or_le 0 s with h | h
      · exact h
      · have : s = 0 := by omega
        subst this; omega
    have hw2 := wrap64 (n := s - 1) (by omega) (by omega)
    simp only [go_sem, Nat.reduceAdd, Nat.reduceSub, Nat.reduceMul, Nat.reduceEqDiff, Nat.reduceLT, Nat.reduceLeDiff, Nat.reduceBEq, reduceCtorEq, Int.reduceToNat, Int.reduceAdd, Int.reduceSub, Int.reduceMul, Int.reduceNeg, Int.reduceLE, Int.reduceLT, Int.reduceEq, ↓reduceIte, h0', h3, hw, hgt, hw2]
    exact ⟨(s - 1).toNat, by omega, s - 1, rfl, by omega, by omega, rfl⟩
  · simp only [go_sem, Nat.reduceAdd, Nat.reduceSub, Nat.reduceMul, Nat.reduceEqDiff, Nat.reduceLT, Nat.reduceLeDiff, Nat.reduceBEq, reduceCtorEq, Int.reduceToNat, Int.reduceAdd, Int.reduceSub, Int.reduceMul, Int.reduceNeg, Int.reduceLE, Int.reduceLT, Int.reduceEq, ↓reduceIte, h0', h3, hw, hgt]
    refine wpc_loop_of (fun k σ => ∃ s : Int, k = (3037000499 - s).toNat ∧ 0 ≤ s ∧ s ≤ 3037000499 ∧ s * s ≤ n ∧ σ.T 0 = .int .i64 n ∧ σ.T 3 = .int .i64 s) ?_ (3037000499 - s).toNat _ ?_
    case refine_2 => exact ⟨s, rfl, hs1, hs2, by omega, by simp only [go_sem, Nat.reduceAdd, Nat.reduceSub, Nat.reduceMul, Nat.reduceEqDiff, Nat.reduceLT, Nat.reduceLeDiff, Nat.reduceBEq, reduceCtorEq, Int.reduceToNat, Int.reduceAdd, Int.reduceSub, Int.reduceMul, Int.reduceNeg, Int.reduceLE, Int.reduceLT, Int.reduceEq, ↓reduceIte, h0'], by simp only [go_sem, Nat.reduceAdd, Nat.reduceSub, Nat.reduceMul, Nat.reduceEqDiff, Nat.reduceLT, Nat.reduceLeDiff, Nat.reduceBEq, reduceCtorEq, Int.reduceToNat, Int.reduceAdd, Int.reduceSub, Int.reduceMul, Int.reduceNeg, Int.reduceLE, Int.reduceLT, Int.reduceEq, ↓reduceIte, h3]⟩
    clear hw hsq hsq0 hgt h0' h3 hs1 hs2 s σ
    rintro k σ ⟨s, rfl, hs1, hs2, hle, h0', h3⟩
    by_cases hlt : s < 3037000499
    · have hsq := sq_mono (a := s + 1) (b := 3037000499) (by omega) (by omega)
      have hsq0 : 0 ≤ (s + 1) * (s + 1) := Int.mul_nonneg (by omega) (by omega)
      have hw1 := wrap64 (n := s + 1) (by omega) (by omega)
      have hw := wrap64 (n := (s + 1) * (s + 1)) (by omega) (by omega)
      by_cases hle2 : (s + 1) * (s + 1) ≤ n
      · simp only [go_sem, Nat.reduceAdd, Nat.reduceSub, Nat.reduceMul, Nat.reduceEqDiff, Nat.reduceLT, Nat.reduceLeDiff, Nat.reduceBEq, reduceCtorEq, Int.reduceToNat, Int.reduceAdd, Int.reduceSub, Int.reduceMul, Int.reduceNeg, Int.reduceLE, Int.reduceLT, Int.reduceEq, ↓reduceIte, h0', h3, hlt, hw1, hw, hle2]
        exact ⟨(3037000499 - (s + 1)).toNat, by omega, s + 1, rfl, by omega, by omega, hle2, rfl⟩
      · simp only [go_sem, Nat.reduceAdd, Nat.reduceSub, Nat.reduceMul, Nat.reduceEqDiff, Nat.reduceLT, Nat.reduceLeDiff, Nat.reduceBEq, reduceCtorEq, Int.reduceToNat, Int.reduceAdd, Int.reduceSub, Int.reduceMul, Int.reduceNeg, Int.reduceLE, Int.reduceLT, Int.reduceEq, ↓reduceIte, h0', h3, hlt, hw1, hw, hle2]
        exact ⟨_, ⟨s, ⟨hs1, hle, by omega⟩, rfl⟩, rfl⟩
    · simp only [go_sem, Nat.reduceAdd, Nat.reduceSub, Nat.reduceMul, Nat.reduceEqDiff, Nat.reduceLT, Nat.reduceLeDiff, Nat.reduceBEq, reduceCtorEq, Int.reduceToNat, Int.reduceAdd, Int.reduceSub, Int.reduceMul, Int.reduceNeg, Int.reduceLE, Int.reduceLT, Int.reduceEq, ↓reduceIte, h0', h3, hlt]
      exact ⟨_, ⟨s, ⟨hs1, hle, by have := sq_mono (a := 3037000500) (b := s + 1) (by omega) (by omega); omega⟩, rfl⟩, rfl⟩
end Go.AM
