/-
  Texts of the proof, joined by program: PTypF1, PTypF3. Own work.
-/
import Derived.Test.YtjmcpijpclfakaaGreatD
set_option linter.unusedSimpArgs false
set_option linter.unusedVariables false
set_option maxRecDepth 20000
namespace Go.AM
set_option maxHeartbeats 1000000 in
theorem rtyp1 {x : Ex} (hx : Ev E 383 [x.v] ⟨vi x.typ, []⟩) {op : Int} (hop : op = 3) (nl : Bool) : Ev E 383 [(Ex.mk op 0 zeroVa nl [x]).v] ⟨vi (if 0 ∈ [x.typ] then 0 else opT op [x.typ]), []⟩ := by
  have hm := many_ev op
  have hmo : many op = 1 := by unfold many; repeat (first | rw [if_neg (by omega)] | rw [if_pos (by omega)])
  rw [hmo] at hm
  have n1 : ¬ op = 1 := by omega
  have n2 : ¬ op = 2 := by omega
  have hm2 : modesOf E 383 = [] := rfl
  obtain ⟨A1x, B1x, C1x, D1x, E1x, F1x, L1x, hvx, hLx, hpx⟩ := x.form2
  rw [hvx] at hx
  generalize x.typ = tx at *
  rw [Ex.v_eq]
  simp only [List.map_cons, List.map_nil, lv_cons, zeroVa, hvx]
  refine Ev.of_s' E_383 (X_383 _) rfl ?_
  (conv => whnf); repeat' ((first | intro g | refine CallS.mk _ (hm) ?_ | refine st ?_ | (first | refine b1 ?_ ?_ | refine b2 ?_ ?_ | refine Br.mk ?_ ?_) <;> intro hc | exact rfl) <;> conv => whnf)
  rename_i g32
  refine LoopS.by (fun (i : Nat) => ⟨[(1, .ptr 32 g32 0 0), (3, .ptr 64 g 0 0), (4, vnat i)], [(32, ⟨g32, 7, false, false, some [_]⟩), (64, ⟨g, 3, false, false, some [.agg (c3 i tx 0 0)]⟩)]⟩) (fun i => i ≤ 1 ∧ (0 < i → tx ≠ 0)) (fun i => 1 - i) 0 (by (refine ⟨?_, ?_⟩ <;> repeat' (first | exact True.intro | refine ai ?_ | refine And.intro ?_ ?_))) (by simp) ?_
  rintro i ⟨hi, px⟩
  have hi2 : i = 0 ∨ i = 1 := by omega
  rcases hi2 with rfl | rfl
  · by_cases q0 : tx = 0
    · subst q0
      (conv => whnf); repeat' ((first | intro g | refine sAct_fn (by assumption) (by first | assumption | rfl | (simp only [V.arePure, V.isPure, Bool.and_self, Bool.true_and, Bool.and_true, *])) (hx) rfl ?_ | refine st ?_ | (first | refine b1 ?_ ?_ | refine b2 ?_ ?_ | refine Br.mk ?_ ?_) <;> intro hc | exact rfl) <;> conv => whnf)
      all_goals simp
    · (conv => whnf); repeat' ((first | intro g | refine sAct_fn (by assumption) (by first | assumption | rfl | (simp only [V.arePure, V.isPure, Bool.and_self, Bool.true_and, Bool.and_true, *])) (hx) rfl ?_ | refine st ?_ | (first | refine b1 ?_ ?_ | refine b2 ?_ ?_ | refine Br.mk ?_ ?_) <;> intro hc | exact rfl) <;> conv => whnf)
      exact NxtS.mk 1 (by first | omega | (dsimp only; omega)) ⟨by omega, by intro _; first | exact q0 | exact px (by omega) | omega⟩ (by (refine ⟨?_, ?_⟩ <;> repeat' (first | exact True.intro | refine ai ?_ | refine And.intro ?_ ?_)))
  · have qx := px (by omega)
    subst hop
    by_cases w1 : tx = 2
    all_goals
      (conv => whnf); repeat' ((first | intro g | refine st ?_ | (first | refine b1 ?_ ?_ | refine b2 ?_ ?_ | refine Br.mk ?_ ?_) <;> intro hc | exact rfl) <;> conv => whnf)
      all_goals simp_all [opT]
end Go.AM
set_option maxRecDepth 20000
namespace Go.AM
set_option maxHeartbeats 1000000 in
theorem rtyp3 {x y z : Ex} (hx : Ev E 383 [x.v] ⟨vi x.typ, []⟩) (hy : Ev E 383 [y.v] ⟨vi y.typ, []⟩) (hz : Ev E 383 [z.v] ⟨vi z.typ, []⟩) {op : Int} (hop : op = 13) (nl : Bool) : Ev E 383 [(Ex.mk op 0 zeroVa nl [x, y, z]).v] ⟨vi (if 0 ∈ [x.typ, y.typ, z.typ] then 0 else opT op [x.typ, y.typ, z.typ]), []⟩ := by
  have hm := many_ev op
  have hmo : many op = 3 := by unfold many; repeat (first | rw [if_neg (by omega)] | rw [if_pos (by omega)])
  rw [hmo] at hm
  have n1 : ¬ op = 1 := by omega
  have n2 : ¬ op = 2 := by omega
  have hm2 : modesOf E 383 = [] := rfl
  obtain ⟨A1x, B1x, C1x, D1x, E1x, F1x, L1x, hvx, hLx, hpx⟩ := x.form2
  rw [hvx] at hx
  generalize x.typ = tx at *
  obtain ⟨A1y, B1y, C1y, D1y, E1y, F1y, L1y, hvy, hLy, hpy⟩ := y.form2
  rw [hvy] at hy
  generalize y.typ = ty at *
  obtain ⟨A1z, B1z, C1z, D1z, E1z, F1z, L1z, hvz, hLz, hpz⟩ := z.form2
  rw [hvz] at hz
  generalize z.typ = tz at *
  rw [Ex.v_eq]
  simp only [List.map_cons, List.map_nil, lv_cons, zeroVa, hvx, hvy, hvz]
  refine Ev.of_s' E_383 (X_383 _) rfl ?_
  (conv => whnf); repeat' ((first | intro g | refine CallS.mk _ (hm) ?_ | refine st ?_ | (first | refine b1 ?_ ?_ | refine b2 ?_ ?_ | refine Br.mk ?_ ?_) <;> intro hc | exact rfl) <;> conv => whnf)
  rename_i g32
  refine LoopS.by (fun (i : Nat) => ⟨[(1, .ptr 32 g32 0 0), (3, .ptr 64 g 0 0), (4, vnat i)], [(32, ⟨g32, 7, false, false, some [_]⟩), (64, ⟨g, 3, false, false, some [.agg (c3 i tx ty tz)]⟩)]⟩) (fun i => i ≤ 3 ∧ (0 < i → tx ≠ 0) ∧ (1 < i → ty ≠ 0) ∧ (2 < i → tz ≠ 0)) (fun i => 3 - i) 0 (by (refine ⟨?_, ?_⟩ <;> repeat' (first | exact True.intro | refine ai ?_ | refine And.intro ?_ ?_))) (by simp) ?_
  rintro i ⟨hi, px, py, pz⟩
  have hi2 : i = 0 ∨ i = 1 ∨ i = 2 ∨ i = 3 := by omega
  rcases hi2 with rfl | rfl | rfl | rfl
  · by_cases q0 : tx = 0
    · subst q0
      (conv => whnf); repeat' ((first | intro g | refine sAct_fn (by assumption) (by first | assumption | rfl | (simp only [V.arePure, V.isPure, Bool.and_self, Bool.true_and, Bool.and_true, *])) (hx) rfl ?_ | refine st ?_ | (first | refine b1 ?_ ?_ | refine b2 ?_ ?_ | refine Br.mk ?_ ?_) <;> intro hc | exact rfl) <;> conv => whnf)
      all_goals simp
    · (conv => whnf); repeat' ((first | intro g | refine sAct_fn (by assumption) (by first | assumption | rfl | (simp only [V.arePure, V.isPure, Bool.and_self, Bool.true_and, Bool.and_true, *])) (hx) rfl ?_ | refine st ?_ | (first | refine b1 ?_ ?_ | refine b2 ?_ ?_ | refine Br.mk ?_ ?_) <;> intro hc | exact rfl) <;> conv => whnf)
      exact NxtS.mk 1 (by first | omega | (dsimp only; omega)) ⟨by omega, by intro _; first | exact q0 | exact px (by omega) | omega, by intro _; first | exact q0 | exact py (by omega) | omega, by intro _; first | exact q0 | exact pz (by omega) | omega⟩ (by (refine ⟨?_, ?_⟩ <;> repeat' (first | exact True.intro | refine ai ?_ | refine And.intro ?_ ?_)))
  · by_cases q0 : ty = 0
    · subst q0
      (conv => whnf); repeat' ((first | intro g | refine sAct_fn (by assumption) (by first | assumption | rfl | (simp only [V.arePure, V.isPure, Bool.and_self, Bool.true_and, Bool.and_true, *])) (hy) rfl ?_ | refine st ?_ | (first | refine b1 ?_ ?_ | refine b2 ?_ ?_ | refine Br.mk ?_ ?_) <;> intro hc | exact rfl) <;> conv => whnf)
      all_goals simp
    · (conv => whnf); repeat' ((first | intro g | refine sAct_fn (by assumption) (by first | assumption | rfl | (simp only [V.arePure, V.isPure, Bool.and_self, Bool.true_and, Bool.and_true, *])) (hy) rfl ?_ | refine st ?_ | (first | refine b1 ?_ ?_ | refine b2 ?_ ?_ | refine Br.mk ?_ ?_) <;> intro hc | exact rfl) <;> conv => whnf)
      exact NxtS.mk 2 (by first | omega | (dsimp only; omega)) ⟨by omega, by intro _; first | exact q0 | exact px (by omega) | omega, by intro _; first | exact q0 | exact py (by omega) | omega, by intro _; first | exact q0 | exact pz (by omega) | omega⟩ (by (refine ⟨?_, ?_⟩ <;> repeat' (first | exact True.intro | refine ai ?_ | refine And.intro ?_ ?_)))
  · by_cases q0 : tz = 0
    · subst q0
      (conv => whnf); repeat' ((first | intro g | refine sAct_fn (by assumption) (by first | assumption | rfl | (simp only [V.arePure, V.isPure, Bool.and_self, Bool.true_and, Bool.and_true, *])) (hz) rfl ?_ | refine st ?_ | (first | refine b1 ?_ ?_ | refine b2 ?_ ?_ | refine Br.mk ?_ ?_) <;> intro hc | exact rfl) <;> conv => whnf)
      all_goals simp
    · (conv => whnf); repeat' ((first | intro g | refine sAct_fn (by assumption) (by first | assumption | rfl | (simp only [V.arePure, V.isPure, Bool.and_self, Bool.true_and, Bool.and_true, *])) (hz) rfl ?_ | refine st ?_ | (first | refine b1 ?_ ?_ | refine b2 ?_ ?_ | refine Br.mk ?_ ?_) <;> intro hc | exact rfl) <;> conv => whnf)
      exact NxtS.mk 3 (by first | omega | (dsimp only; omega)) ⟨by omega, by intro _; first | exact q0 | exact px (by omega) | omega, by intro _; first | exact q0 | exact py (by omega) | omega, by intro _; first | exact q0 | exact pz (by omega) | omega⟩ (by (refine ⟨?_, ?_⟩ <;> repeat' (first | exact True.intro | refine ai ?_ | refine And.intro ?_ ?_)))
  · have qx := px (by omega)
    have qy := py (by omega)
    have qz := pz (by omega)
    subst hop
    (conv => whnf); repeat' ((first | intro g | refine st ?_ | (first | refine b1 ?_ ?_ | refine b2 ?_ ?_ | refine Br.mk ?_ ?_) <;> intro hc | exact rfl) <;> conv => whnf)
    all_goals simp_all [opT]
    all_goals omega
end Go.AM
