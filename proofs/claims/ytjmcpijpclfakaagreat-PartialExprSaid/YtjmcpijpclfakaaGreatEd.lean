/-
  Texts of the proof, joined by program: PTypG, PTypH1. Own work.
-/
import Derived.Test.YtjmcpijpclfakaaGreatD
set_option linter.unusedSimpArgs false
set_option linter.unusedVariables false
set_option maxRecDepth 20000
namespace Go.AM
theorem ptyp_bad (op var : Int) (val : Va) (nl : Bool) (l : List Ex) (hlen : l.length < 1000000) (h : okHead op var val l.length = false) : Ev E 371 [(Ex.mk op var val nl l).v] ⟨vi 0, []⟩ := by
  obtain ⟨t, n, b, s⟩ := val
  have hm := class_ev op
  have hz := @zero_iff ⟨t, n, b, s⟩
  rw [Ex.v_eq]
  refine Ev.of_s' E_371 (X_371 _) rfl ?_
  have hpu := Ex.pures l
  have hlm : (l.map Ex.v).length = l.length := List.length_map ..
  rcases lv_cases nl (l.map Ex.v) with ⟨e, e2⟩ | e
  · have : l = [] := by simpa using e2
    subst this
    rw [e]
    (conv => whnf); repeat' ((first | intro g | refine CallS.mk _ (hm) ?_ | refine st ?_ | (first | refine b1 ?_ ?_ | refine b2 ?_ ?_ | refine Br.mk ?_ ?_) <;> intro hc | exact rfl) <;> conv => whnf)
    all_goals (exfalso; simp [okHead, Va.zero, *] at h)
    all_goals simp_all
  · rw [e]
    (conv => whnf); repeat' ((first | intro g | refine CallS.mk _ (hm) ?_ | refine st ?_ | (first | refine b1 ?_ ?_ | refine b2 ?_ ?_ | refine Br.mk ?_ ?_) <;> intro hc | exact rfl) <;> conv => whnf)
    all_goals (exfalso; simp [okHead, Va.zero, *] at h)
    all_goals simp_all
theorem ptyp_const (val : Va) (nl : Bool) (hf : val.s.length < 4611686018427387904) : Ev E 371 [(Ex.mk 1 0 val nl []).v] ⟨vi (if val.right then val.t else 0), []⟩ := by
  have hu := unwrap_ev val hf
  have hw := wrapU_ev val
  have hm := class_ev 1
  have he : ∃ w, (if val.right then val else zeroVa) = w ∧ w.t = (if val.right then val.t else 0) := ⟨_, rfl, by split <;> rfl⟩
  obtain ⟨w, hw2, hw3⟩ := he
  rw [hw2] at hw
  rw [← hw3]
  clear hw2 hw3
  obtain ⟨t, n, b, s⟩ := val
  simp only [Va.v] at hu hw
  have hifp : V.isPure (Va.ifc ⟨t, n, b, s⟩) = true := by
    unfold Va.ifc
    repeat' split
    all_goals rfl
  generalize Va.ifc ⟨t, n, b, s⟩ = iv at *
  have hm2 : modesOf E 391 = [] := rfl
  have hm3 : modesOf E 404 = [] := rfl
  have hap : V.arePure [iv] = true := by simp [V.arePure, hifp]
  rw [Ex.v_eq]
  refine Ev.of_s' E_371 (X_371 _) rfl ?_
  cases nl <;> simp only [List.map_nil, lv, cond_true, cond_false]
  all_goals
    (conv => whnf); repeat' ((first | intro g | refine CallS.mk _ (hm) ?_ | refine st ?_ | (first | refine b1 ?_ ?_ | refine b2 ?_ ?_ | refine Br.mk ?_ ?_) <;> intro hc | exact rfl) <;> conv => whnf)
    rename_i g32
    refine LoopS.by (fun (i : Nat) => ⟨[(1, .ptr 32 g32 0 0), (5, .ptr 96 g 0 0), (44, vnat 0), (45, vnat 0)], [(32, ⟨g32, 7, false, false, some [_]⟩), (96, ⟨g, 1, false, false, some [.nils]⟩)]⟩) (fun i => i = 0) (fun _ => 0) 0 (by (refine ⟨?_, ?_⟩ <;> repeat' (first | exact True.intro | refine ai ?_ | refine And.intro ?_ ?_))) rfl ?_
    rintro i rfl
    (conv => whnf); repeat' ((first | intro g | refine st ?_ | (first | refine b1 ?_ ?_ | refine b2 ?_ ?_ | refine Br.mk ?_ ?_) <;> intro hc | exact rfl) <;> conv => whnf)
    refine CallS.mk _ hu ?_
    simp only [putOuts2, importRes2, hifp, cond_true, List.append_nil]
    (conv => whnf); repeat' ((first | intro g | refine st ?_ | (first | refine b1 ?_ ?_ | refine b2 ?_ ?_ | refine Br.mk ?_ ?_) <;> intro hc | exact rfl) <;> conv => whnf)
    refine sAct_fn hm2 hap hw rfl ?_
    (conv => whnf); repeat' ((first | intro g | refine st ?_ | (first | refine b1 ?_ ?_ | refine b2 ?_ ?_ | refine Br.mk ?_ ?_) <;> intro hc | exact rfl) <;> conv => whnf)
theorem ptyp_var (var : Int) (nl : Bool) : Ev E 371 [(Ex.mk 2 var zeroVa nl []).v] ⟨vi (varT var), []⟩ := by
  have hv := variable_ev ⟨0, [], [], 0, 0, false, 0, 0, 0⟩ var
  have hw := wrapV_ev ⟨0, [], [], 0, 0, false, 0, 0, 0⟩ var
  have ht := val_t ⟨0, [], [], 0, 0, false, 0, 0, 0⟩ var
  rw [← ht]
  generalize Envi.val _ var = va at *
  have hifp : V.isPure (vifc va) = true := by
    unfold vifc
    repeat' split
    all_goals rfl
  generalize vifc va = iv at *
  have hm2 : modesOf E 391 = [] := rfl
  have hm3 : modesOf E 405 = [] := rfl
  have hap : V.arePure [iv] = true := by simp [V.arePure, hifp]
  simp only [Envi.v, Va.v] at hv hw
  have hm := class_ev 2
  rw [Ex.v_eq]
  refine Ev.of_s' E_371 (X_371 _) rfl ?_
  cases nl <;> simp only [List.map_nil, lv, cond_true, cond_false]
  all_goals
    (conv => whnf); repeat' ((first | intro g | refine CallS.mk _ (hm) ?_ | refine st ?_ | (first | refine b1 ?_ ?_ | refine b2 ?_ ?_ | refine Br.mk ?_ ?_) <;> intro hc | exact rfl) <;> conv => whnf)
    rename_i g32
    refine LoopS.by (fun (i : Nat) => ⟨[(1, .ptr 32 g32 0 0), (5, .ptr 96 g 0 0), (44, vnat 0), (45, vnat 0)], [(32, ⟨g32, 7, false, false, some [_]⟩), (96, ⟨g, 1, false, false, some [.nils]⟩)]⟩) (fun i => i = 0) (fun _ => 0) 0 (by (refine ⟨?_, ?_⟩ <;> repeat' (first | exact True.intro | refine ai ?_ | refine And.intro ?_ ?_))) rfl ?_
    rintro i rfl
    (conv => whnf); repeat' ((first | intro g | refine st ?_ | (first | refine b1 ?_ ?_ | refine b2 ?_ ?_ | refine Br.mk ?_ ?_) <;> intro hc | exact rfl) <;> conv => whnf)
    refine CallS.mk _ hv ?_
    simp only [putOuts2, importRes2, hifp, cond_true, List.append_nil]
    (conv => whnf); repeat' ((first | intro g | refine st ?_ | (first | refine b1 ?_ ?_ | refine b2 ?_ ?_ | refine Br.mk ?_ ?_) <;> intro hc | exact rfl) <;> conv => whnf)
    refine sAct_fn hm2 hap hw rfl ?_
    (conv => whnf); repeat' ((first | intro g | refine st ?_ | (first | refine b1 ?_ ?_ | refine b2 ?_ ?_ | refine Br.mk ?_ ?_) <;> intro hc | exact rfl) <;> conv => whnf)
end Go.AM
set_option maxRecDepth 20000
namespace Go.AM
set_option maxHeartbeats 1000000 in
theorem ptyp1 {x : Ex} (hx : Ev E 371 [x.v] ⟨vi x.typ, []⟩) {op : Int} (hop : op = 3) (nl : Bool) : Ev E 371 [(Ex.mk op 0 zeroVa nl [x]).v] ⟨vi (if 0 ∈ [x.typ] then 0 else opT op [x.typ]), []⟩ := by
  have hm := class_ev op
  have hmo : many op = 1 := by unfold many; repeat (first | rw [if_neg (by omega)] | rw [if_pos (by omega)])
  rw [hmo] at hm
  have n1 : ¬ op = 1 := by omega
  have n2 : ¬ op = 2 := by omega
  have hm2 : modesOf E 371 = [] := rfl
  obtain ⟨A1x, B1x, C1x, D1x, E1x, F1x, L1x, hvx, hLx, hpx⟩ := x.form2
  rw [hvx] at hx
  generalize x.typ = tx at *
  rw [Ex.v_eq]
  simp only [List.map_cons, List.map_nil, lv_cons, zeroVa, hvx]
  refine Ev.of_s' E_371 (X_371 _) rfl ?_
  generalize hcl : clsOf op = kc at *
  (conv => whnf); repeat' ((first | intro g | refine CallS.mk _ (hm) ?_ | refine st ?_ | (first | refine b1 ?_ ?_ | refine b2 ?_ ?_ | refine Br.mk ?_ ?_) <;> intro hc | exact rfl) <;> conv => whnf)
  rename_i g32
  obtain ⟨g96, hg96⟩ : ∃ x, x = g := ⟨_, rfl⟩
  rw [← hg96]; clear hg96
  refine LoopS.by (fun ((i, g9) : Nat × Nat) => ⟨[(1, .ptr 32 g32 0 0), (3, vi kc), (5, .ptr 96 g96 0 0), (43, .lit 7 [.agg [vi A1x, vi B1x, vi C1x, vi D1x, .bool E1x, .str F1x, L1x]]), (44, vnat 1), (45, vnat i)],
      match i with
      | 0 => [(32, ⟨g32, 7, false, false, some [.agg [vi op, vi 0, vi 0, vi 0, .bool false, .str [], .lit 7 [.agg [vi A1x, vi B1x, vi C1x, vi D1x, .bool E1x, .str F1x, L1x]]]]⟩), (96, ⟨g96, 1, false, false, some [.nils]⟩)]
      | i + 1 => [(32, ⟨g32, 7, false, false, some [.agg [vi op, vi 0, vi 0, vi 0, .bool false, .str [], .lit 7 [.agg [vi A1x, vi B1x, vi C1x, vi D1x, .bool E1x, .str F1x, L1x]]]]⟩), (96, ⟨g96, 1, false, false, some [.sl 912 g9 0 (i + 1)]⟩), (912, ⟨g9, 1, true, false, some (c3l (i + 1) tx 0 0)⟩)]⟩)
    (fun (i, g9) => i ≤ 1 ∧ (0 < i → tx ≠ 0)) (fun (i, g9) => 1 - i) (0, 0) (by (refine ⟨?_, ?_⟩ <;> repeat' (first | exact True.intro | refine ai ?_ | refine And.intro ?_ ?_))) (by simp) ?_
  rintro ⟨i, g9⟩ ⟨hi, px⟩
  try dsimp only at hi px
  have hi2 : i = 0 ∨ i = 1 := by omega
  rcases hi2 with rfl | rfl
  · by_cases q0 : tx = 0
    · subst q0
      (conv => whnf); repeat' ((first | intro g | refine sAct_fn (by assumption) (by first | assumption | rfl | (simp only [V.arePure, V.isPure, Bool.and_self, Bool.true_and, Bool.and_true, *])) (hx) rfl ?_ | refine st ?_ | (first | refine b1 ?_ ?_ | refine b2 ?_ ?_ | refine Br.mk ?_ ?_) <;> intro hc | exact rfl) <;> conv => whnf)
      all_goals simp
    · (conv => whnf); repeat' ((first | intro g | refine sAct_fn (by assumption) (by first | assumption | rfl | (simp only [V.arePure, V.isPure, Bool.and_self, Bool.true_and, Bool.and_true, *])) (hx) rfl ?_ | refine st ?_ | (first | refine b1 ?_ ?_ | refine b2 ?_ ?_ | refine Br.mk ?_ ?_) <;> intro hc | exact rfl) <;> conv => whnf)
      exact NxtS.mk (1, g) (by first | omega | (dsimp only; omega)) ⟨by omega, by intro _; first | exact q0 | exact px (by omega) | omega⟩ (by (refine ⟨?_, ?_⟩ <;> repeat' (first | exact True.intro | refine ai ?_ | refine And.intro ?_ ?_)))
  · have qx := px (by omega)
    have hall := fun t : Int => tall_ev t (l := [tx]) (.inl rfl) (by simp)
    subst hop
    have hcl2 : kc = 1 := by rw [← hcl]; decide
    subst hcl2
    (conv => whnf); repeat' ((first | intro g | refine CallS.mk _ (hall _) ?_ | refine st ?_ | (first | refine b1 ?_ ?_ | refine b2 ?_ ?_ | refine Br.mk ?_ ?_) <;> intro hc | exact rfl) <;> conv => whnf)
    all_goals simp_all [opT]
end Go.AM
