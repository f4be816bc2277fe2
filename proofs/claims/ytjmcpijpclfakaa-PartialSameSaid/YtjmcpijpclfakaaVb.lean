/-
  Texts of the proof, joined by program: PEvA, PEvn, PEvo4b, PEvo5b, PEvo6i, PEvo6b, PEvo6s, PEvo7i. Own work.
-/
import Derived.Test.YtjmcpijpclfakaaVa
import Derived.Test.YtjmcpijpclfakaaF
set_option linter.unusedSimpArgs false
set_option linter.unusedVariables false
set_option maxRecDepth 20000
namespace Go.AM
def c3g : Nat → V → V → V → List V
  | 0, _, _, _ => []
  | 1, x, _, _ => [x]
  | 2, x, y, _ => [x, y]
  | _ + 3, x, y, z => [x, y, z]
theorem pev_v (x : Envi) (v : Int) (nl : Bool) : Ev E 392 [(Ex.mk 2 v zeroVa nl []).v, x.v] ⟨vifc (x.val v), []⟩ := by
  have h := variable_ev x v
  have hp := vifc_pure (x.val v)
  generalize vifc (x.val v) = iv at *
  have hm2 : modesOf E 405 = [] := rfl
  rw [Ex.v_eq]
  simp only [Envi.v] at h ⊢
  cases nl <;> simp only [List.map_nil, lv, cond_true, cond_false, zeroVa]
  all_goals
    refine Ev.of_s' E_392 (X_392 _) rfl ?_
    (conv => whnf); repeat' ((first | intro g | refine st ?_ | (first | refine b1 ?_ ?_ | refine b2 ?_ ?_ | refine Br.mk ?_ ?_) <;> intro hc | exact rfl) <;> conv => whnf)
    rename_i g48 g64
    refine LoopS.by (fun (i : Nat) => ⟨[(2, .ptr 48 g48 0 0), (3, .ptr 64 g64 0 0), (5, .sl 97 g 0 0), (13, vnat 0), (14, vnat 0)], [(48, ⟨g48, 7, false, false, some [_]⟩), (64, ⟨g64, 9, false, false, some [_]⟩), (97, ⟨g, 1, true, false, some []⟩)]⟩) (fun i => i = 0) (fun _ => 0) 0 (by (refine ⟨?_, ?_⟩ <;> repeat' (first | exact True.intro | refine ai ?_ | refine And.intro ?_ ?_))) rfl ?_
    rintro i rfl
    (conv => whnf); repeat' ((first | intro g | refine st ?_ | (first | refine b1 ?_ ?_ | refine b2 ?_ ?_ | refine Br.mk ?_ ?_) <;> intro hc | exact rfl | ((refine CallS.mk _ h ?_; simp only [putOuts2, importRes2, hp, cond_true, List.append_nil]))) <;> conv => whnf)
    all_goals simp only [hp]
    all_goals (conv => whnf); repeat' ((first | intro g | refine st ?_ | (first | refine b1 ?_ ?_ | refine b2 ?_ ?_ | refine Br.mk ?_ ?_) <;> intro hc | exact rfl) <;> conv => whnf)
theorem ifc_eq {v : Va} (hr : v.right = true) : v.ifc = vifc v := by
  unfold Va.ifc vifc
  rw [if_pos hr]
  split
  · rfl
  · split
    · rfl
    · rw [if_pos (by have := right_t hr; omega)]
theorem pev_c (x : Envi) (val : Va) (nl : Bool) (hr : val.right = true) (hlen : val.s.length < 4611686018427387904) : Ev E 392 [(Ex.mk 1 0 val nl []).v, x.v] ⟨vifc val, []⟩ := by
  have h := unwrap_ev val hlen
  rw [ifc_eq hr] at h
  have hp := vifc_pure val
  simp only [Va.v] at h
  generalize vifc val = iv at *
  have hm2 : modesOf E 404 = [] := rfl
  rw [Ex.v_eq]
  simp only [Envi.v] at h ⊢
  cases nl <;> simp only [List.map_nil, lv, cond_true, cond_false]
  all_goals
    refine Ev.of_s' E_392 (X_392 _) rfl ?_
    (conv => whnf); repeat' ((first | intro g | refine st ?_ | (first | refine b1 ?_ ?_ | refine b2 ?_ ?_ | refine Br.mk ?_ ?_) <;> intro hc | exact rfl) <;> conv => whnf)
    rename_i g48 g64
    refine LoopS.by (fun (i : Nat) => ⟨[(2, .ptr 48 g48 0 0), (3, .ptr 64 g64 0 0), (5, .sl 97 g 0 0), (13, vnat 0), (14, vnat 0)], [(48, ⟨g48, 7, false, false, some [_]⟩), (64, ⟨g64, 9, false, false, some [_]⟩), (97, ⟨g, 1, true, false, some []⟩)]⟩) (fun i => i = 0) (fun _ => 0) 0 (by (refine ⟨?_, ?_⟩ <;> repeat' (first | exact True.intro | refine ai ?_ | refine And.intro ?_ ?_))) rfl ?_
    rintro i rfl
    (conv => whnf); repeat' ((first | intro g | refine st ?_ | (first | refine b1 ?_ ?_ | refine b2 ?_ ?_ | refine Br.mk ?_ ?_) <;> intro hc | exact rfl | ((refine CallS.mk _ h ?_; simp only [putOuts2, importRes2, hp, cond_true, List.append_nil]))) <;> conv => whnf)
    all_goals simp only [hp]
    all_goals (conv => whnf); repeat' ((first | intro g | refine st ?_ | (first | refine b1 ?_ ?_ | refine b2 ?_ ?_ | refine Br.mk ?_ ?_) <;> intro hc | exact rfl) <;> conv => whnf)
end Go.AM
set_option maxRecDepth 20000
namespace Go.AM
set_option maxHeartbeats 1000000 in
theorem pev_n {x0 : Ex} {ev : Envi} {v0 : Bool} (h0 : Ev E 392 [x0.v, ev.v] ⟨.iface 4 (.bool v0), []⟩) (nl : Bool) : Ev E 392 [(Ex.mk 3 0 zeroVa nl [x0]).v, ev.v] ⟨.iface 4 (.bool (!v0)), []⟩ := by
  have hm2 : modesOf E 392 = [] := rfl
  have hev : ev.v = .agg [vi ev.kind, .str ev.cls, .str ev.name, vi ev.weight, vi ev.level, .bool ev.stairs, vi ev.scale, vi ev.hour, vi ev.reader] := rfl
  obtain ⟨A0, B0, C0, D0, E0, F0, L0, hv0, hL0, hp0⟩ := x0.form2
  rw [hv0, hev] at h0
  rw [hev, Ex.v_eq]
  simp only [List.map_cons, List.map_nil, lv_cons, zeroVa, hv0]
  refine Ev.of_s' E_392 (X_392 _) rfl ?_
  (conv => whnf); repeat' ((first | intro g | refine st ?_ | (first | refine b1 ?_ ?_ | refine b2 ?_ ?_ | refine Br.mk ?_ ?_) <;> intro hc | exact rfl) <;> conv => whnf)
  rename_i g48 g64
  refine LoopS.by (fun ((i, g9) : Nat × Nat) => ⟨[(2, .ptr 48 g48 0 0), (3, .ptr 64 g64 0 0), (5, .sl 97 g9 0 i), (12, .lit 7 [.agg [vi A0, vi B0, vi C0, vi D0, .bool E0, .str F0, L0]]), (13, vnat 1), (14, vnat i)], [(48, ⟨g48, 7, false, false, some [.agg [vi 3, vi 0, vi 0, vi 0, .bool false, .str [], .lit 7 [.agg [vi A0, vi B0, vi C0, vi D0, .bool E0, .str F0, L0]]]]⟩), (64, ⟨g64, 9, false, false, some [.agg [vi ev.kind, .str ev.cls, .str ev.name, vi ev.weight, vi ev.level, .bool ev.stairs, vi ev.scale, vi ev.hour, vi ev.reader]]⟩), (97, ⟨g9, 1, true, false, some (c3g i (.iface 4 (.bool v0)) (.nili) (.nili))⟩)]⟩)
    (fun (i, g9) => i ≤ 1) (fun (i, g9) => 1 - i) (0, g) (by (refine ⟨?_, ?_⟩ <;> repeat' (first | exact True.intro | refine ai ?_ | refine And.intro ?_ ?_))) (by simp) ?_
  rintro ⟨i, g9⟩ hi
  try dsimp only at hi
  have hi2 : i = 0 ∨ i = 1 := by omega
  rcases hi2 with rfl | rfl
  · simp only [c3g]
    (conv => whnf); repeat' ((first | intro g | refine sAct_fn (by assumption) (by first | assumption | rfl | (simp only [V.arePure, V.isPure, Bool.and_self, Bool.true_and, Bool.and_true, *])) (h0) rfl ?_ | refine st ?_ | (first | refine b1 ?_ ?_ | refine b2 ?_ ?_ | refine Br.mk ?_ ?_) <;> intro hc | exact rfl) <;> conv => whnf)
    exact NxtS.mk (1, g) (by first | omega | (dsimp only; omega)) (by omega) (by (refine ⟨?_, ?_⟩ <;> repeat' (first | exact True.intro | refine ai ?_ | refine And.intro ?_ ?_)))
  · simp only [c3g]
    (conv => whnf); repeat' ((first | intro g | refine st ?_ | (first | refine b1 ?_ ?_ | refine b2 ?_ ?_ | refine Br.mk ?_ ?_) <;> intro hc | exact rfl) <;> conv => whnf)
end Go.AM
set_option maxRecDepth 20000
namespace Go.AM
set_option maxHeartbeats 1000000 in
theorem pev_o4b {x0 x1 : Ex} {ev : Envi} {v0 : Bool} {v1 : Bool} (h0 : Ev E 392 [x0.v, ev.v] ⟨.iface 4 (.bool v0), []⟩) (h1 : Ev E 392 [x1.v, ev.v] ⟨.iface 4 (.bool v1), []⟩) (nl : Bool) : Ev E 392 [(Ex.mk 4 0 zeroVa nl [x0, x1]).v, ev.v] ⟨.iface 4 (.bool (v0 && v1)), []⟩ := by
  have hm2 : modesOf E 392 = [] := rfl
  have hev : ev.v = .agg [vi ev.kind, .str ev.cls, .str ev.name, vi ev.weight, vi ev.level, .bool ev.stairs, vi ev.scale, vi ev.hour, vi ev.reader] := rfl
  obtain ⟨A0, B0, C0, D0, E0, F0, L0, hv0, hL0, hp0⟩ := x0.form2
  rw [hv0, hev] at h0
  obtain ⟨A1, B1, C1, D1, E1, F1, L1, hv1, hL1, hp1⟩ := x1.form2
  rw [hv1, hev] at h1
  rw [hev, Ex.v_eq]
  simp only [List.map_cons, List.map_nil, lv_cons, zeroVa, hv0, hv1]
  refine Ev.of_s' E_392 (X_392 _) rfl ?_
  (conv => whnf); repeat' ((first | intro g | refine st ?_ | (first | refine b1 ?_ ?_ | refine b2 ?_ ?_ | refine Br.mk ?_ ?_) <;> intro hc | exact rfl) <;> conv => whnf)
  rename_i g48 g64
  refine LoopS.by (fun ((i, g9) : Nat × Nat) => ⟨[(2, .ptr 48 g48 0 0), (3, .ptr 64 g64 0 0), (5, .sl 97 g9 0 i), (12, .lit 7 [.agg [vi A0, vi B0, vi C0, vi D0, .bool E0, .str F0, L0], .agg [vi A1, vi B1, vi C1, vi D1, .bool E1, .str F1, L1]]), (13, vnat 2), (14, vnat i)], [(48, ⟨g48, 7, false, false, some [.agg [vi 4, vi 0, vi 0, vi 0, .bool false, .str [], .lit 7 [.agg [vi A0, vi B0, vi C0, vi D0, .bool E0, .str F0, L0], .agg [vi A1, vi B1, vi C1, vi D1, .bool E1, .str F1, L1]]]]⟩), (64, ⟨g64, 9, false, false, some [.agg [vi ev.kind, .str ev.cls, .str ev.name, vi ev.weight, vi ev.level, .bool ev.stairs, vi ev.scale, vi ev.hour, vi ev.reader]]⟩), (97, ⟨g9, 1, true, false, some (c3g i (.iface 4 (.bool v0)) (.iface 4 (.bool v1)) (.nili))⟩)]⟩)
    (fun (i, g9) => i ≤ 2) (fun (i, g9) => 2 - i) (0, g) (by (refine ⟨?_, ?_⟩ <;> repeat' (first | exact True.intro | refine ai ?_ | refine And.intro ?_ ?_))) (by simp) ?_
  rintro ⟨i, g9⟩ hi
  try dsimp only at hi
  have hi2 : i = 0 ∨ i = 1 ∨ i = 2 := by omega
  rcases hi2 with rfl | rfl | rfl
  · simp only [c3g]
    (conv => whnf); repeat' ((first | intro g | refine sAct_fn (by assumption) (by first | assumption | rfl | (simp only [V.arePure, V.isPure, Bool.and_self, Bool.true_and, Bool.and_true, *])) (h0) rfl ?_ | refine st ?_ | (first | refine b1 ?_ ?_ | refine b2 ?_ ?_ | refine Br.mk ?_ ?_) <;> intro hc | exact rfl) <;> conv => whnf)
    exact NxtS.mk (1, g) (by first | omega | (dsimp only; omega)) (by omega) (by (refine ⟨?_, ?_⟩ <;> repeat' (first | exact True.intro | refine ai ?_ | refine And.intro ?_ ?_)))
  · simp only [c3g]
    (conv => whnf); repeat' ((first | intro g | refine sAct_fn (by assumption) (by first | assumption | rfl | (simp only [V.arePure, V.isPure, Bool.and_self, Bool.true_and, Bool.and_true, *])) (h1) rfl ?_ | refine st ?_ | (first | refine b1 ?_ ?_ | refine b2 ?_ ?_ | refine Br.mk ?_ ?_) <;> intro hc | exact rfl) <;> conv => whnf)
    exact NxtS.mk (2, g) (by first | omega | (dsimp only; omega)) (by omega) (by (refine ⟨?_, ?_⟩ <;> repeat' (first | exact True.intro | refine ai ?_ | refine And.intro ?_ ?_)))
  · simp only [c3g]
    cases v0
    all_goals (conv => whnf); repeat' ((first | intro g | refine st ?_ | (first | refine b1 ?_ ?_ | refine b2 ?_ ?_ | refine Br.mk ?_ ?_) <;> intro hc | exact rfl) <;> conv => whnf)
end Go.AM
set_option maxRecDepth 20000
namespace Go.AM
set_option maxHeartbeats 1000000 in
theorem pev_o5b {x0 x1 : Ex} {ev : Envi} {v0 : Bool} {v1 : Bool} (h0 : Ev E 392 [x0.v, ev.v] ⟨.iface 4 (.bool v0), []⟩) (h1 : Ev E 392 [x1.v, ev.v] ⟨.iface 4 (.bool v1), []⟩) (nl : Bool) : Ev E 392 [(Ex.mk 5 0 zeroVa nl [x0, x1]).v, ev.v] ⟨.iface 4 (.bool (v0 || v1)), []⟩ := by
  have hm2 : modesOf E 392 = [] := rfl
  have hev : ev.v = .agg [vi ev.kind, .str ev.cls, .str ev.name, vi ev.weight, vi ev.level, .bool ev.stairs, vi ev.scale, vi ev.hour, vi ev.reader] := rfl
  obtain ⟨A0, B0, C0, D0, E0, F0, L0, hv0, hL0, hp0⟩ := x0.form2
  rw [hv0, hev] at h0
  obtain ⟨A1, B1, C1, D1, E1, F1, L1, hv1, hL1, hp1⟩ := x1.form2
  rw [hv1, hev] at h1
  rw [hev, Ex.v_eq]
  simp only [List.map_cons, List.map_nil, lv_cons, zeroVa, hv0, hv1]
  refine Ev.of_s' E_392 (X_392 _) rfl ?_
  (conv => whnf); repeat' ((first | intro g | refine st ?_ | (first | refine b1 ?_ ?_ | refine b2 ?_ ?_ | refine Br.mk ?_ ?_) <;> intro hc | exact rfl) <;> conv => whnf)
  rename_i g48 g64
  refine LoopS.by (fun ((i, g9) : Nat × Nat) => ⟨[(2, .ptr 48 g48 0 0), (3, .ptr 64 g64 0 0), (5, .sl 97 g9 0 i), (12, .lit 7 [.agg [vi A0, vi B0, vi C0, vi D0, .bool E0, .str F0, L0], .agg [vi A1, vi B1, vi C1, vi D1, .bool E1, .str F1, L1]]), (13, vnat 2), (14, vnat i)], [(48, ⟨g48, 7, false, false, some [.agg [vi 5, vi 0, vi 0, vi 0, .bool false, .str [], .lit 7 [.agg [vi A0, vi B0, vi C0, vi D0, .bool E0, .str F0, L0], .agg [vi A1, vi B1, vi C1, vi D1, .bool E1, .str F1, L1]]]]⟩), (64, ⟨g64, 9, false, false, some [.agg [vi ev.kind, .str ev.cls, .str ev.name, vi ev.weight, vi ev.level, .bool ev.stairs, vi ev.scale, vi ev.hour, vi ev.reader]]⟩), (97, ⟨g9, 1, true, false, some (c3g i (.iface 4 (.bool v0)) (.iface 4 (.bool v1)) (.nili))⟩)]⟩)
    (fun (i, g9) => i ≤ 2) (fun (i, g9) => 2 - i) (0, g) (by (refine ⟨?_, ?_⟩ <;> repeat' (first | exact True.intro | refine ai ?_ | refine And.intro ?_ ?_))) (by simp) ?_
  rintro ⟨i, g9⟩ hi
  try dsimp only at hi
  have hi2 : i = 0 ∨ i = 1 ∨ i = 2 := by omega
  rcases hi2 with rfl | rfl | rfl
  · simp only [c3g]
    (conv => whnf); repeat' ((first | intro g | refine sAct_fn (by assumption) (by first | assumption | rfl | (simp only [V.arePure, V.isPure, Bool.and_self, Bool.true_and, Bool.and_true, *])) (h0) rfl ?_ | refine st ?_ | (first | refine b1 ?_ ?_ | refine b2 ?_ ?_ | refine Br.mk ?_ ?_) <;> intro hc | exact rfl) <;> conv => whnf)
    exact NxtS.mk (1, g) (by first | omega | (dsimp only; omega)) (by omega) (by (refine ⟨?_, ?_⟩ <;> repeat' (first | exact True.intro | refine ai ?_ | refine And.intro ?_ ?_)))
  · simp only [c3g]
    (conv => whnf); repeat' ((first | intro g | refine sAct_fn (by assumption) (by first | assumption | rfl | (simp only [V.arePure, V.isPure, Bool.and_self, Bool.true_and, Bool.and_true, *])) (h1) rfl ?_ | refine st ?_ | (first | refine b1 ?_ ?_ | refine b2 ?_ ?_ | refine Br.mk ?_ ?_) <;> intro hc | exact rfl) <;> conv => whnf)
    exact NxtS.mk (2, g) (by first | omega | (dsimp only; omega)) (by omega) (by (refine ⟨?_, ?_⟩ <;> repeat' (first | exact True.intro | refine ai ?_ | refine And.intro ?_ ?_)))
  · simp only [c3g]
    cases v0
    all_goals (conv => whnf); repeat' ((first | intro g | refine st ?_ | (first | refine b1 ?_ ?_ | refine b2 ?_ ?_ | refine Br.mk ?_ ?_) <;> intro hc | exact rfl) <;> conv => whnf)
end Go.AM
set_option maxRecDepth 20000
namespace Go.AM
set_option maxHeartbeats 1000000 in
theorem pev_o6i {x0 x1 : Ex} {ev : Envi} {v0 : Int} {v1 : Int} (h0 : Ev E 392 [x0.v, ev.v] ⟨.iface 3 (vi v0), []⟩) (h1 : Ev E 392 [x1.v, ev.v] ⟨.iface 3 (vi v1), []⟩) (nl : Bool) : Ev E 392 [(Ex.mk 6 0 zeroVa nl [x0, x1]).v, ev.v] ⟨.iface 4 (.bool (v0 == v1)), []⟩ := by
  have hm2 : modesOf E 392 = [] := rfl
  have hev : ev.v = .agg [vi ev.kind, .str ev.cls, .str ev.name, vi ev.weight, vi ev.level, .bool ev.stairs, vi ev.scale, vi ev.hour, vi ev.reader] := rfl
  obtain ⟨A0, B0, C0, D0, E0, F0, L0, hv0, hL0, hp0⟩ := x0.form2
  rw [hv0, hev] at h0
  obtain ⟨A1, B1, C1, D1, E1, F1, L1, hv1, hL1, hp1⟩ := x1.form2
  rw [hv1, hev] at h1
  rw [hev, Ex.v_eq]
  simp only [List.map_cons, List.map_nil, lv_cons, zeroVa, hv0, hv1]
  refine Ev.of_s' E_392 (X_392 _) rfl ?_
  (conv => whnf); repeat' ((first | intro g | refine st ?_ | (first | refine b1 ?_ ?_ | refine b2 ?_ ?_ | refine Br.mk ?_ ?_) <;> intro hc | exact rfl) <;> conv => whnf)
  rename_i g48 g64
  refine LoopS.by (fun ((i, g9) : Nat × Nat) => ⟨[(2, .ptr 48 g48 0 0), (3, .ptr 64 g64 0 0), (5, .sl 97 g9 0 i), (12, .lit 7 [.agg [vi A0, vi B0, vi C0, vi D0, .bool E0, .str F0, L0], .agg [vi A1, vi B1, vi C1, vi D1, .bool E1, .str F1, L1]]), (13, vnat 2), (14, vnat i)], [(48, ⟨g48, 7, false, false, some [.agg [vi 6, vi 0, vi 0, vi 0, .bool false, .str [], .lit 7 [.agg [vi A0, vi B0, vi C0, vi D0, .bool E0, .str F0, L0], .agg [vi A1, vi B1, vi C1, vi D1, .bool E1, .str F1, L1]]]]⟩), (64, ⟨g64, 9, false, false, some [.agg [vi ev.kind, .str ev.cls, .str ev.name, vi ev.weight, vi ev.level, .bool ev.stairs, vi ev.scale, vi ev.hour, vi ev.reader]]⟩), (97, ⟨g9, 1, true, false, some (c3g i (.iface 3 (vi v0)) (.iface 3 (vi v1)) (.nili))⟩)]⟩)
    (fun (i, g9) => i ≤ 2) (fun (i, g9) => 2 - i) (0, g) (by (refine ⟨?_, ?_⟩ <;> repeat' (first | exact True.intro | refine ai ?_ | refine And.intro ?_ ?_))) (by simp) ?_
  rintro ⟨i, g9⟩ hi
  try dsimp only at hi
  have hi2 : i = 0 ∨ i = 1 ∨ i = 2 := by omega
  rcases hi2 with rfl | rfl | rfl
  · simp only [c3g]
    (conv => whnf); repeat' ((first | intro g | refine sAct_fn (by assumption) (by first | assumption | rfl | (simp only [V.arePure, V.isPure, Bool.and_self, Bool.true_and, Bool.and_true, *])) (h0) rfl ?_ | refine st ?_ | (first | refine b1 ?_ ?_ | refine b2 ?_ ?_ | refine Br.mk ?_ ?_) <;> intro hc | exact rfl) <;> conv => whnf)
    exact NxtS.mk (1, g) (by first | omega | (dsimp only; omega)) (by omega) (by (refine ⟨?_, ?_⟩ <;> repeat' (first | exact True.intro | refine ai ?_ | refine And.intro ?_ ?_)))
  · simp only [c3g]
    (conv => whnf); repeat' ((first | intro g | refine sAct_fn (by assumption) (by first | assumption | rfl | (simp only [V.arePure, V.isPure, Bool.and_self, Bool.true_and, Bool.and_true, *])) (h1) rfl ?_ | refine st ?_ | (first | refine b1 ?_ ?_ | refine b2 ?_ ?_ | refine Br.mk ?_ ?_) <;> intro hc | exact rfl) <;> conv => whnf)
    exact NxtS.mk (2, g) (by first | omega | (dsimp only; omega)) (by omega) (by (refine ⟨?_, ?_⟩ <;> repeat' (first | exact True.intro | refine ai ?_ | refine And.intro ?_ ?_)))
  · simp only [c3g]
    (conv => whnf); repeat' ((first | intro g | refine st ?_ | (first | refine b1 ?_ ?_ | refine b2 ?_ ?_ | refine Br.mk ?_ ?_) <;> intro hc | exact rfl) <;> conv => whnf)
    all_goals simp
end Go.AM
set_option maxRecDepth 20000
namespace Go.AM
set_option maxHeartbeats 1000000 in
theorem pev_o6b {x0 x1 : Ex} {ev : Envi} {v0 : Bool} {v1 : Bool} (h0 : Ev E 392 [x0.v, ev.v] ⟨.iface 4 (.bool v0), []⟩) (h1 : Ev E 392 [x1.v, ev.v] ⟨.iface 4 (.bool v1), []⟩) (nl : Bool) : Ev E 392 [(Ex.mk 6 0 zeroVa nl [x0, x1]).v, ev.v] ⟨.iface 4 (.bool (v0 == v1)), []⟩ := by
  have hm2 : modesOf E 392 = [] := rfl
  have hev : ev.v = .agg [vi ev.kind, .str ev.cls, .str ev.name, vi ev.weight, vi ev.level, .bool ev.stairs, vi ev.scale, vi ev.hour, vi ev.reader] := rfl
  obtain ⟨A0, B0, C0, D0, E0, F0, L0, hv0, hL0, hp0⟩ := x0.form2
  rw [hv0, hev] at h0
  obtain ⟨A1, B1, C1, D1, E1, F1, L1, hv1, hL1, hp1⟩ := x1.form2
  rw [hv1, hev] at h1
  rw [hev, Ex.v_eq]
  simp only [List.map_cons, List.map_nil, lv_cons, zeroVa, hv0, hv1]
  refine Ev.of_s' E_392 (X_392 _) rfl ?_
  (conv => whnf); repeat' ((first | intro g | refine st ?_ | (first | refine b1 ?_ ?_ | refine b2 ?_ ?_ | refine Br.mk ?_ ?_) <;> intro hc | exact rfl) <;> conv => whnf)
  rename_i g48 g64
  refine LoopS.by (fun ((i, g9) : Nat × Nat) => ⟨[(2, .ptr 48 g48 0 0), (3, .ptr 64 g64 0 0), (5, .sl 97 g9 0 i), (12, .lit 7 [.agg [vi A0, vi B0, vi C0, vi D0, .bool E0, .str F0, L0], .agg [vi A1, vi B1, vi C1, vi D1, .bool E1, .str F1, L1]]), (13, vnat 2), (14, vnat i)], [(48, ⟨g48, 7, false, false, some [.agg [vi 6, vi 0, vi 0, vi 0, .bool false, .str [], .lit 7 [.agg [vi A0, vi B0, vi C0, vi D0, .bool E0, .str F0, L0], .agg [vi A1, vi B1, vi C1, vi D1, .bool E1, .str F1, L1]]]]⟩), (64, ⟨g64, 9, false, false, some [.agg [vi ev.kind, .str ev.cls, .str ev.name, vi ev.weight, vi ev.level, .bool ev.stairs, vi ev.scale, vi ev.hour, vi ev.reader]]⟩), (97, ⟨g9, 1, true, false, some (c3g i (.iface 4 (.bool v0)) (.iface 4 (.bool v1)) (.nili))⟩)]⟩)
    (fun (i, g9) => i ≤ 2) (fun (i, g9) => 2 - i) (0, g) (by (refine ⟨?_, ?_⟩ <;> repeat' (first | exact True.intro | refine ai ?_ | refine And.intro ?_ ?_))) (by simp) ?_
  rintro ⟨i, g9⟩ hi
  try dsimp only at hi
  have hi2 : i = 0 ∨ i = 1 ∨ i = 2 := by omega
  rcases hi2 with rfl | rfl | rfl
  · simp only [c3g]
    (conv => whnf); repeat' ((first | intro g | refine sAct_fn (by assumption) (by first | assumption | rfl | (simp only [V.arePure, V.isPure, Bool.and_self, Bool.true_and, Bool.and_true, *])) (h0) rfl ?_ | refine st ?_ | (first | refine b1 ?_ ?_ | refine b2 ?_ ?_ | refine Br.mk ?_ ?_) <;> intro hc | exact rfl) <;> conv => whnf)
    exact NxtS.mk (1, g) (by first | omega | (dsimp only; omega)) (by omega) (by (refine ⟨?_, ?_⟩ <;> repeat' (first | exact True.intro | refine ai ?_ | refine And.intro ?_ ?_)))
  · simp only [c3g]
    (conv => whnf); repeat' ((first | intro g | refine sAct_fn (by assumption) (by first | assumption | rfl | (simp only [V.arePure, V.isPure, Bool.and_self, Bool.true_and, Bool.and_true, *])) (h1) rfl ?_ | refine st ?_ | (first | refine b1 ?_ ?_ | refine b2 ?_ ?_ | refine Br.mk ?_ ?_) <;> intro hc | exact rfl) <;> conv => whnf)
    exact NxtS.mk (2, g) (by first | omega | (dsimp only; omega)) (by omega) (by (refine ⟨?_, ?_⟩ <;> repeat' (first | exact True.intro | refine ai ?_ | refine And.intro ?_ ?_)))
  · simp only [c3g]
    (conv => whnf); repeat' ((first | intro g | refine st ?_ | (first | refine b1 ?_ ?_ | refine b2 ?_ ?_ | refine Br.mk ?_ ?_) <;> intro hc | exact rfl) <;> conv => whnf)
    all_goals simp
end Go.AM
set_option maxRecDepth 20000
namespace Go.AM
set_option maxHeartbeats 1000000 in
theorem pev_o6s {x0 x1 : Ex} {ev : Envi} {v0 : Str} {v1 : Str} (h0 : Ev E 392 [x0.v, ev.v] ⟨.iface 9 (.str v0), []⟩) (h1 : Ev E 392 [x1.v, ev.v] ⟨.iface 9 (.str v1), []⟩) (nl : Bool) : Ev E 392 [(Ex.mk 6 0 zeroVa nl [x0, x1]).v, ev.v] ⟨.iface 4 (.bool (decide (v0 = v1))), []⟩ := by
  have hm2 : modesOf E 392 = [] := rfl
  have hev : ev.v = .agg [vi ev.kind, .str ev.cls, .str ev.name, vi ev.weight, vi ev.level, .bool ev.stairs, vi ev.scale, vi ev.hour, vi ev.reader] := rfl
  obtain ⟨A0, B0, C0, D0, E0, F0, L0, hv0, hL0, hp0⟩ := x0.form2
  rw [hv0, hev] at h0
  obtain ⟨A1, B1, C1, D1, E1, F1, L1, hv1, hL1, hp1⟩ := x1.form2
  rw [hv1, hev] at h1
  rw [hev, Ex.v_eq]
  simp only [List.map_cons, List.map_nil, lv_cons, zeroVa, hv0, hv1]
  refine Ev.of_s' E_392 (X_392 _) rfl ?_
  (conv => whnf); repeat' ((first | intro g | refine st ?_ | (first | refine b1 ?_ ?_ | refine b2 ?_ ?_ | refine Br.mk ?_ ?_) <;> intro hc | exact rfl) <;> conv => whnf)
  rename_i g48 g64
  refine LoopS.by (fun ((i, g9) : Nat × Nat) => ⟨[(2, .ptr 48 g48 0 0), (3, .ptr 64 g64 0 0), (5, .sl 97 g9 0 i), (12, .lit 7 [.agg [vi A0, vi B0, vi C0, vi D0, .bool E0, .str F0, L0], .agg [vi A1, vi B1, vi C1, vi D1, .bool E1, .str F1, L1]]), (13, vnat 2), (14, vnat i)], [(48, ⟨g48, 7, false, false, some [.agg [vi 6, vi 0, vi 0, vi 0, .bool false, .str [], .lit 7 [.agg [vi A0, vi B0, vi C0, vi D0, .bool E0, .str F0, L0], .agg [vi A1, vi B1, vi C1, vi D1, .bool E1, .str F1, L1]]]]⟩), (64, ⟨g64, 9, false, false, some [.agg [vi ev.kind, .str ev.cls, .str ev.name, vi ev.weight, vi ev.level, .bool ev.stairs, vi ev.scale, vi ev.hour, vi ev.reader]]⟩), (97, ⟨g9, 1, true, false, some (c3g i (.iface 9 (.str v0)) (.iface 9 (.str v1)) (.nili))⟩)]⟩)
    (fun (i, g9) => i ≤ 2) (fun (i, g9) => 2 - i) (0, g) (by (refine ⟨?_, ?_⟩ <;> repeat' (first | exact True.intro | refine ai ?_ | refine And.intro ?_ ?_))) (by simp) ?_
  rintro ⟨i, g9⟩ hi
  try dsimp only at hi
  have hi2 : i = 0 ∨ i = 1 ∨ i = 2 := by omega
  rcases hi2 with rfl | rfl | rfl
  · simp only [c3g]
    (conv => whnf); repeat' ((first | intro g | refine sAct_fn (by assumption) (by first | assumption | rfl | (simp only [V.arePure, V.isPure, Bool.and_self, Bool.true_and, Bool.and_true, *])) (h0) rfl ?_ | refine st ?_ | (first | refine b1 ?_ ?_ | refine b2 ?_ ?_ | refine Br.mk ?_ ?_) <;> intro hc | exact rfl) <;> conv => whnf)
    exact NxtS.mk (1, g) (by first | omega | (dsimp only; omega)) (by omega) (by (refine ⟨?_, ?_⟩ <;> repeat' (first | exact True.intro | refine ai ?_ | refine And.intro ?_ ?_)))
  · simp only [c3g]
    (conv => whnf); repeat' ((first | intro g | refine sAct_fn (by assumption) (by first | assumption | rfl | (simp only [V.arePure, V.isPure, Bool.and_self, Bool.true_and, Bool.and_true, *])) (h1) rfl ?_ | refine st ?_ | (first | refine b1 ?_ ?_ | refine b2 ?_ ?_ | refine Br.mk ?_ ?_) <;> intro hc | exact rfl) <;> conv => whnf)
    exact NxtS.mk (2, g) (by first | omega | (dsimp only; omega)) (by omega) (by (refine ⟨?_, ?_⟩ <;> repeat' (first | exact True.intro | refine ai ?_ | refine And.intro ?_ ?_)))
  · simp only [c3g]
    (conv => whnf); repeat' ((first | intro g | refine st ?_ | (first | refine b1 ?_ ?_ | refine b2 ?_ ?_ | refine Br.mk ?_ ?_) <;> intro hc | exact rfl) <;> conv => whnf)
    all_goals simp
end Go.AM
set_option maxRecDepth 20000
namespace Go.AM
set_option maxHeartbeats 1000000 in
theorem pev_o7i {x0 x1 : Ex} {ev : Envi} {v0 : Int} {v1 : Int} (h0 : Ev E 392 [x0.v, ev.v] ⟨.iface 3 (vi v0), []⟩) (h1 : Ev E 392 [x1.v, ev.v] ⟨.iface 3 (vi v1), []⟩) (nl : Bool) : Ev E 392 [(Ex.mk 7 0 zeroVa nl [x0, x1]).v, ev.v] ⟨.iface 4 (.bool (decide (v0 < v1))), []⟩ := by
  have hm2 : modesOf E 392 = [] := rfl
  have hev : ev.v = .agg [vi ev.kind, .str ev.cls, .str ev.name, vi ev.weight, vi ev.level, .bool ev.stairs, vi ev.scale, vi ev.hour, vi ev.reader] := rfl
  obtain ⟨A0, B0, C0, D0, E0, F0, L0, hv0, hL0, hp0⟩ := x0.form2
  rw [hv0, hev] at h0
  obtain ⟨A1, B1, C1, D1, E1, F1, L1, hv1, hL1, hp1⟩ := x1.form2
  rw [hv1, hev] at h1
  rw [hev, Ex.v_eq]
  simp only [List.map_cons, List.map_nil, lv_cons, zeroVa, hv0, hv1]
  refine Ev.of_s' E_392 (X_392 _) rfl ?_
  (conv => whnf); repeat' ((first | intro g | refine st ?_ | (first | refine b1 ?_ ?_ | refine b2 ?_ ?_ | refine Br.mk ?_ ?_) <;> intro hc | exact rfl) <;> conv => whnf)
  rename_i g48 g64
  refine LoopS.by (fun ((i, g9) : Nat × Nat) => ⟨[(2, .ptr 48 g48 0 0), (3, .ptr 64 g64 0 0), (5, .sl 97 g9 0 i), (12, .lit 7 [.agg [vi A0, vi B0, vi C0, vi D0, .bool E0, .str F0, L0], .agg [vi A1, vi B1, vi C1, vi D1, .bool E1, .str F1, L1]]), (13, vnat 2), (14, vnat i)], [(48, ⟨g48, 7, false, false, some [.agg [vi 7, vi 0, vi 0, vi 0, .bool false, .str [], .lit 7 [.agg [vi A0, vi B0, vi C0, vi D0, .bool E0, .str F0, L0], .agg [vi A1, vi B1, vi C1, vi D1, .bool E1, .str F1, L1]]]]⟩), (64, ⟨g64, 9, false, false, some [.agg [vi ev.kind, .str ev.cls, .str ev.name, vi ev.weight, vi ev.level, .bool ev.stairs, vi ev.scale, vi ev.hour, vi ev.reader]]⟩), (97, ⟨g9, 1, true, false, some (c3g i (.iface 3 (vi v0)) (.iface 3 (vi v1)) (.nili))⟩)]⟩)
    (fun (i, g9) => i ≤ 2) (fun (i, g9) => 2 - i) (0, g) (by (refine ⟨?_, ?_⟩ <;> repeat' (first | exact True.intro | refine ai ?_ | refine And.intro ?_ ?_))) (by simp) ?_
  rintro ⟨i, g9⟩ hi
  try dsimp only at hi
  have hi2 : i = 0 ∨ i = 1 ∨ i = 2 := by omega
  rcases hi2 with rfl | rfl | rfl
  · simp only [c3g]
    (conv => whnf); repeat' ((first | intro g | refine sAct_fn (by assumption) (by first | assumption | rfl | (simp only [V.arePure, V.isPure, Bool.and_self, Bool.true_and, Bool.and_true, *])) (h0) rfl ?_ | refine st ?_ | (first | refine b1 ?_ ?_ | refine b2 ?_ ?_ | refine Br.mk ?_ ?_) <;> intro hc | exact rfl) <;> conv => whnf)
    exact NxtS.mk (1, g) (by first | omega | (dsimp only; omega)) (by omega) (by (refine ⟨?_, ?_⟩ <;> repeat' (first | exact True.intro | refine ai ?_ | refine And.intro ?_ ?_)))
  · simp only [c3g]
    (conv => whnf); repeat' ((first | intro g | refine sAct_fn (by assumption) (by first | assumption | rfl | (simp only [V.arePure, V.isPure, Bool.and_self, Bool.true_and, Bool.and_true, *])) (h1) rfl ?_ | refine st ?_ | (first | refine b1 ?_ ?_ | refine b2 ?_ ?_ | refine Br.mk ?_ ?_) <;> intro hc | exact rfl) <;> conv => whnf)
    exact NxtS.mk (2, g) (by first | omega | (dsimp only; omega)) (by omega) (by (refine ⟨?_, ?_⟩ <;> repeat' (first | exact True.intro | refine ai ?_ | refine And.intro ?_ ?_)))
  · simp only [c3g]
    (conv => whnf); repeat' ((first | intro g | refine st ?_ | (first | refine b1 ?_ ?_ | refine b2 ?_ ?_ | refine Br.mk ?_ ?_) <;> intro hc | exact rfl) <;> conv => whnf)
end Go.AM
