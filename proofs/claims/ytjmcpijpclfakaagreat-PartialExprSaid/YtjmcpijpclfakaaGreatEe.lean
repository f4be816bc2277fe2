/-
  Texts of the proof, joined by program: PTypH2. Own work.
-/
import Derived.Test.YtjmcpijpclfakaaGreatD
set_option linter.unusedSimpArgs false
set_option linter.unusedVariables false
set_option maxRecDepth 20000
namespace Go.AM
set_option maxHeartbeats 1000000 in
theorem ptyp2 {x y : Ex} (hx : Ev E 371 [x.v] ⟨vi x.typ, []⟩) (hy : Ev E 371 [y.v] ⟨vi y.typ, []⟩) {op : Int} (hop : 4 ≤ op ∧ op ≤ 12) (nl : Bool) : Ev E 371 [(Ex.mk op 0 zeroVa nl [x, y]).v] ⟨vi (if 0 ∈ [x.typ, y.typ] then 0 else opT op [x.typ, y.typ]), []⟩ := by
  have hm := class_ev op
  have hmo : many op = 2 := by unfold many; repeat (first | rw [if_neg (by omega)] | rw [if_pos (by omega)])
  rw [hmo] at hm
  have n1 : ¬ op = 1 := by omega
  have n2 : ¬ op = 2 := by omega
  have hm2 : modesOf E 371 = [] := rfl
  obtain ⟨A1x, B1x, C1x, D1x, E1x, F1x, L1x, hvx, hLx, hpx⟩ := x.form2
  rw [hvx] at hx
  generalize x.typ = tx at *
  obtain ⟨A1y, B1y, C1y, D1y, E1y, F1y, L1y, hvy, hLy, hpy⟩ := y.form2
  rw [hvy] at hy
  generalize y.typ = ty at *
  rw [Ex.v_eq]
  simp only [List.map_cons, List.map_nil, lv_cons, zeroVa, hvx, hvy]
  refine Ev.of_s' E_371 (X_371 _) rfl ?_
  generalize hcl : clsOf op = kc at *
  (conv => whnf); repeat' ((first | intro g | refine CallS.mk _ (hm) ?_ | refine st ?_ | (first | refine b1 ?_ ?_ | refine b2 ?_ ?_ | refine Br.mk ?_ ?_) <;> intro hc | exact rfl) <;> conv => whnf)
  rename_i g32
  obtain ⟨g96, hg96⟩ : ∃ x, x = g := ⟨_, rfl⟩
  rw [← hg96]; clear hg96
  refine LoopS.by (fun ((i, g9) : Nat × Nat) => ⟨[(1, .ptr 32 g32 0 0), (3, vi kc), (5, .ptr 96 g96 0 0), (43, .lit 7 [.agg [vi A1x, vi B1x, vi C1x, vi D1x, .bool E1x, .str F1x, L1x], .agg [vi A1y, vi B1y, vi C1y, vi D1y, .bool E1y, .str F1y, L1y]]), (44, vnat 2), (45, vnat i)],
      match i with
      | 0 => [(32, ⟨g32, 7, false, false, some [.agg [vi op, vi 0, vi 0, vi 0, .bool false, .str [], .lit 7 [.agg [vi A1x, vi B1x, vi C1x, vi D1x, .bool E1x, .str F1x, L1x], .agg [vi A1y, vi B1y, vi C1y, vi D1y, .bool E1y, .str F1y, L1y]]]]⟩), (96, ⟨g96, 1, false, false, some [.nils]⟩)]
      | i + 1 => [(32, ⟨g32, 7, false, false, some [.agg [vi op, vi 0, vi 0, vi 0, .bool false, .str [], .lit 7 [.agg [vi A1x, vi B1x, vi C1x, vi D1x, .bool E1x, .str F1x, L1x], .agg [vi A1y, vi B1y, vi C1y, vi D1y, .bool E1y, .str F1y, L1y]]]]⟩), (96, ⟨g96, 1, false, false, some [.sl 912 g9 0 (i + 1)]⟩), (912, ⟨g9, 1, true, false, some (c3l (i + 1) tx ty 0)⟩)]⟩)
    (fun (i, g9) => i ≤ 2 ∧ (0 < i → tx ≠ 0) ∧ (1 < i → ty ≠ 0)) (fun (i, g9) => 2 - i) (0, 0) (by (refine ⟨?_, ?_⟩ <;> repeat' (first | exact True.intro | refine ai ?_ | refine And.intro ?_ ?_))) (by simp) ?_
  rintro ⟨i, g9⟩ ⟨hi, px, py⟩
  try dsimp only at hi px py
  have hi2 : i = 0 ∨ i = 1 ∨ i = 2 := by omega
  rcases hi2 with rfl | rfl | rfl
  · by_cases q0 : tx = 0
    · subst q0
      (conv => whnf); repeat' ((first | intro g | refine sAct_fn (by assumption) (by first | assumption | rfl | (simp only [V.arePure, V.isPure, Bool.and_self, Bool.true_and, Bool.and_true, *])) (hx) rfl ?_ | refine st ?_ | (first | refine b1 ?_ ?_ | refine b2 ?_ ?_ | refine Br.mk ?_ ?_) <;> intro hc | exact rfl) <;> conv => whnf)
      all_goals simp
    · (conv => whnf); repeat' ((first | intro g | refine sAct_fn (by assumption) (by first | assumption | rfl | (simp only [V.arePure, V.isPure, Bool.and_self, Bool.true_and, Bool.and_true, *])) (hx) rfl ?_ | refine st ?_ | (first | refine b1 ?_ ?_ | refine b2 ?_ ?_ | refine Br.mk ?_ ?_) <;> intro hc | exact rfl) <;> conv => whnf)
      exact NxtS.mk (1, g) (by first | omega | (dsimp only; omega)) ⟨by omega, by intro _; first | exact q0 | exact px (by omega) | omega, by intro _; first | exact q0 | exact py (by omega) | omega⟩ (by (refine ⟨?_, ?_⟩ <;> repeat' (first | exact True.intro | refine ai ?_ | refine And.intro ?_ ?_)))
  · by_cases q0 : ty = 0
    · subst q0
      (conv => whnf); repeat' ((first | intro g | refine sAct_fn (by assumption) (by first | assumption | rfl | (simp only [V.arePure, V.isPure, Bool.and_self, Bool.true_and, Bool.and_true, *])) (hy) rfl ?_ | refine st ?_ | (first | refine b1 ?_ ?_ | refine b2 ?_ ?_ | refine Br.mk ?_ ?_) <;> intro hc | exact rfl) <;> conv => whnf)
      all_goals simp
    · (conv => whnf); repeat' ((first | intro g | refine sAct_fn (by assumption) (by first | assumption | rfl | (simp only [V.arePure, V.isPure, Bool.and_self, Bool.true_and, Bool.and_true, *])) (hy) rfl ?_ | refine st ?_ | (first | refine b1 ?_ ?_ | refine b2 ?_ ?_ | refine Br.mk ?_ ?_) <;> intro hc | exact rfl) <;> conv => whnf)
      exact NxtS.mk (2, g) (by first | omega | (dsimp only; omega)) ⟨by omega, by intro _; first | exact q0 | exact px (by omega) | omega, by intro _; first | exact q0 | exact py (by omega) | omega⟩ (by (refine ⟨?_, ?_⟩ <;> repeat' (first | exact True.intro | refine ai ?_ | refine And.intro ?_ ?_)))
  · have qx := px (by omega)
    have qy := py (by omega)
    have hall := fun t : Int => tall_ev t (l := [tx, ty]) (.inl rfl) (by simp)
    have hop2 : op = 4 ∨ op = 5 ∨ op = 6 ∨ op = 7 ∨ (8 ≤ op ∧ op ≤ 12) := by omega
    rcases hop2 with rfl | rfl | rfl | rfl | ⟨o8, o12⟩
    · have hcl2 : kc = 1 := by rw [← hcl]; decide
      subst hcl2
      (conv => whnf); repeat' ((first | intro g | refine CallS.mk _ (hall _) ?_ | refine st ?_ | (first | refine b1 ?_ ?_ | refine b2 ?_ ?_ | refine Br.mk ?_ ?_) <;> intro hc | exact rfl) <;> conv => whnf)
      all_goals simp_all [opT]
    · have hcl2 : kc = 1 := by rw [← hcl]; decide
      subst hcl2
      (conv => whnf); repeat' ((first | intro g | refine CallS.mk _ (hall _) ?_ | refine st ?_ | (first | refine b1 ?_ ?_ | refine b2 ?_ ?_ | refine Br.mk ?_ ?_) <;> intro hc | exact rfl) <;> conv => whnf)
      all_goals simp_all [opT]
    · have hcl2 : kc = 2 := by rw [← hcl]; decide
      subst hcl2
      (conv => whnf); repeat' ((first | intro g | refine CallS.mk _ (hall _) ?_ | refine st ?_ | (first | refine b1 ?_ ?_ | refine b2 ?_ ?_ | refine Br.mk ?_ ?_) <;> intro hc | exact rfl) <;> conv => whnf)
      all_goals simp_all [opT]
      all_goals omega
    · have hcl2 : kc = 3 := by rw [← hcl]; decide
      subst hcl2
      (conv => whnf); repeat' ((first | intro g | refine CallS.mk _ (hall _) ?_ | refine st ?_ | (first | refine b1 ?_ ?_ | refine b2 ?_ ?_ | refine Br.mk ?_ ?_) <;> intro hc | exact rfl) <;> conv => whnf)
      all_goals simp_all [opT]
    · have hcl2 : kc = 4 := by rw [← hcl]; unfold clsOf; repeat (first | rw [if_neg (by omega)] | rw [if_pos (by omega)])
      subst hcl2
      have m4 : ¬ op = 4 := by omega
      have m5 : ¬ op = 5 := by omega
      have m6 : ¬ op = 6 := by omega
      have m7 : ¬ op = 7 := by omega
      (conv => whnf); repeat' ((first | intro g | refine CallS.mk _ (hall _) ?_ | refine st ?_ | (first | refine b1 ?_ ?_ | refine b2 ?_ ?_ | refine Br.mk ?_ ?_) <;> intro hc | exact rfl) <;> conv => whnf)
      all_goals simp_all [opT]
end Go.AM
