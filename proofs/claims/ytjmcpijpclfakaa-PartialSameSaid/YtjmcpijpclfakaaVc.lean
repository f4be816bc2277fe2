/-
  Texts of the proof, joined by program: PEvo8i, PEvo9i, PEvo10i, PEvo11i, PEvo12i, PEvfi, PEvfb, PEvfs. Own work.
-/
import Derived.Test.YtjmcpijpclfakaaVb
set_option linter.unusedSimpArgs false
set_option linter.unusedVariables false
set_option maxRecDepth 20000
namespace Go.AM
set_option maxHeartbeats 1000000 in
theorem pev_o8i {x0 x1 : Ex} {ev : Envi} {v0 : Int} {v1 : Int} (h0 : Ev E 392 [x0.v, ev.v] ⟨.iface 3 (vi v0), []⟩) (h1 : Ev E 392 [x1.v, ev.v] ⟨.iface 3 (vi v1), []⟩) (nl : Bool) : Ev E 392 [(Ex.mk 8 0 zeroVa nl [x0, x1]).v, ev.v] ⟨.iface 3 (vi (lim (w64 (v0 + v1)))), []⟩ := by
  have hm2 : modesOf E 392 = [] := rfl
  have hev : ev.v = .agg [vi ev.kind, .str ev.cls, .str ev.name, vi ev.weight, vi ev.level, .bool ev.stairs, vi ev.scale, vi ev.hour, vi ev.reader] := rfl
  obtain ⟨A0, B0, C0, D0, E0, F0, L0, hv0, hL0, hp0⟩ := x0.form2
  rw [hv0, hev] at h0
  obtain ⟨A1, B1, C1, D1, E1, F1, L1, hv1, hL1, hp1⟩ := x1.form2
  rw [hv1, hev] at h1
  rw [hev, Ex.v_eq]
  simp only [List.map_cons, List.map_nil, lv_cons, zeroVa, hv0, hv1]
  refine Ev.of_s' E_392 (X_392 _) rfl ?_
  (conv => whnf); repeat' ((first | intro g | refine st ?_ | (first | refine b1 ?_ ?_ | refine b2 ?_ ?_ | refine Br.mk ?_ ?_) <;> intro hc | exact rfl) <;> conv => whnf)
  rename_i g48 g64
  refine LoopS.by (fun ((i, g9) : Nat × Nat) => ⟨[(2, .ptr 48 g48 0 0), (3, .ptr 64 g64 0 0), (5, .sl 97 g9 0 i), (12, .lit 7 [.agg [vi A0, vi B0, vi C0, vi D0, .bool E0, .str F0, L0], .agg [vi A1, vi B1, vi C1, vi D1, .bool E1, .str F1, L1]]), (13, vnat 2), (14, vnat i)], [(48, ⟨g48, 7, false, false, some [.agg [vi 8, vi 0, vi 0, vi 0, .bool false, .str [], .lit 7 [.agg [vi A0, vi B0, vi C0, vi D0, .bool E0, .str F0, L0], .agg [vi A1, vi B1, vi C1, vi D1, .bool E1, .str F1, L1]]]]⟩), (64, ⟨g64, 9, false, false, some [.agg [vi ev.kind, .str ev.cls, .str ev.name, vi ev.weight, vi ev.level, .bool ev.stairs, vi ev.scale, vi ev.hour, vi ev.reader]]⟩), (97, ⟨g9, 1, true, false, some (c3g i (.iface 3 (vi v0)) (.iface 3 (vi v1)) (.nili))⟩)]⟩)
    (fun (i, g9) => i ≤ 2) (fun (i, g9) => 2 - i) (0, g) (by (refine ⟨?_, ?_⟩ <;> repeat' (first | exact True.intro | refine ai ?_ | refine And.intro ?_ ?_))) (by simp) ?_
  rintro ⟨i, g9⟩ hi
  try dsimp only at hi
  have hi2 : i = 0 ∨ i = 1 ∨ i = 2 := by omega
  rcases hi2 with rfl | rfl | rfl
  · simp only [c3g]
    (conv => whnf); repeat' ((first | intro g | refine sAct_fn (by assumption) (by first | assumption | rfl | (simp only [V.arePure, V.isPure, Bool.and_self, Bool.true_and, Bool.and_true, *])) (h0) rfl ?_ | refine st ?_ | (first | refine b1 ?_ ?_ | refine b2 ?_ ?_ | refine Br.mk ?_ ?_) <;> intro hc | exact rfl) <;> conv => whnf)
    exact NxtS.mk (1, g) (by first | omega | (dsimp only; omega)) (by omega) (by (refine ⟨?_, ?_⟩ <;> repeat' (first | exact True.intro | refine ai ?_ | refine And.intro ?_ ?_)))
  · simp only [c3g]
    (conv => whnf); repeat' ((first | intro g | refine sAct_fn (by assumption) (by first | assumption | rfl | (simp only [V.arePure, V.isPure, Bool.and_self, Bool.true_and, Bool.and_true, *])) (h1) rfl ?_ | refine st ?_ | (first | refine b1 ?_ ?_ | refine b2 ?_ ?_ | refine Br.mk ?_ ?_) <;> intro hc | exact rfl) <;> conv => whnf)
    exact NxtS.mk (2, g) (by first | omega | (dsimp only; omega)) (by omega) (by (refine ⟨?_, ?_⟩ <;> repeat' (first | exact True.intro | refine ai ?_ | refine And.intro ?_ ?_)))
  · simp only [c3g]
    (conv => whnf); repeat' ((first | intro g | refine CallS.mk _ (plim_ev _) ?_ | refine st ?_ | (first | refine b1 ?_ ?_ | refine b2 ?_ ?_ | refine Br.mk ?_ ?_) <;> intro hc | exact rfl) <;> conv => whnf)
end Go.AM
set_option maxRecDepth 20000
namespace Go.AM
set_option maxHeartbeats 1000000 in
theorem pev_o9i {x0 x1 : Ex} {ev : Envi} {v0 : Int} {v1 : Int} (h0 : Ev E 392 [x0.v, ev.v] ⟨.iface 3 (vi v0), []⟩) (h1 : Ev E 392 [x1.v, ev.v] ⟨.iface 3 (vi v1), []⟩) (nl : Bool) : Ev E 392 [(Ex.mk 9 0 zeroVa nl [x0, x1]).v, ev.v] ⟨.iface 3 (vi (lim (w64 (v0 - v1)))), []⟩ := by
  have hm2 : modesOf E 392 = [] := rfl
  have hev : ev.v = .agg [vi ev.kind, .str ev.cls, .str ev.name, vi ev.weight, vi ev.level, .bool ev.stairs, vi ev.scale, vi ev.hour, vi ev.reader] := rfl
  obtain ⟨A0, B0, C0, D0, E0, F0, L0, hv0, hL0, hp0⟩ := x0.form2
  rw [hv0, hev] at h0
  obtain ⟨A1, B1, C1, D1, E1, F1, L1, hv1, hL1, hp1⟩ := x1.form2
  rw [hv1, hev] at h1
  rw [hev, Ex.v_eq]
  simp only [List.map_cons, List.map_nil, lv_cons, zeroVa, hv0, hv1]
  refine Ev.of_s' E_392 (X_392 _) rfl ?_
  (conv => whnf); repeat' ((first | intro g | refine st ?_ | (first | refine b1 ?_ ?_ | refine b2 ?_ ?_ | refine Br.mk ?_ ?_) <;> intro hc | exact rfl) <;> conv => whnf)
  rename_i g48 g64
  refine LoopS.by (fun ((i, g9) : Nat × Nat) => ⟨[(2, .ptr 48 g48 0 0), (3, .ptr 64 g64 0 0), (5, .sl 97 g9 0 i), (12, .lit 7 [.agg [vi A0, vi B0, vi C0, vi D0, .bool E0, .str F0, L0], .agg [vi A1, vi B1, vi C1, vi D1, .bool E1, .str F1, L1]]), (13, vnat 2), (14, vnat i)], [(48, ⟨g48, 7, false, false, some [.agg [vi 9, vi 0, vi 0, vi 0, .bool false, .str [], .lit 7 [.agg [vi A0, vi B0, vi C0, vi D0, .bool E0, .str F0, L0], .agg [vi A1, vi B1, vi C1, vi D1, .bool E1, .str F1, L1]]]]⟩), (64, ⟨g64, 9, false, false, some [.agg [vi ev.kind, .str ev.cls, .str ev.name, vi ev.weight, vi ev.level, .bool ev.stairs, vi ev.scale, vi ev.hour, vi ev.reader]]⟩), (97, ⟨g9, 1, true, false, some (c3g i (.iface 3 (vi v0)) (.iface 3 (vi v1)) (.nili))⟩)]⟩)
    (fun (i, g9) => i ≤ 2) (fun (i, g9) => 2 - i) (0, g) (by (refine ⟨?_, ?_⟩ <;> repeat' (first | exact True.intro | refine ai ?_ | refine And.intro ?_ ?_))) (by simp) ?_
  rintro ⟨i, g9⟩ hi
  try dsimp only at hi
  have hi2 : i = 0 ∨ i = 1 ∨ i = 2 := by omega
  rcases hi2 with rfl | rfl | rfl
  · simp only [c3g]
    (conv => whnf); repeat' ((first | intro g | refine sAct_fn (by assumption) (by first | assumption | rfl | (simp only [V.arePure, V.isPure, Bool.and_self, Bool.true_and, Bool.and_true, *])) (h0) rfl ?_ | refine st ?_ | (first | refine b1 ?_ ?_ | refine b2 ?_ ?_ | refine Br.mk ?_ ?_) <;> intro hc | exact rfl) <;> conv => whnf)
    exact NxtS.mk (1, g) (by first | omega | (dsimp only; omega)) (by omega) (by (refine ⟨?_, ?_⟩ <;> repeat' (first | exact True.intro | refine ai ?_ | refine And.intro ?_ ?_)))
  · simp only [c3g]
    (conv => whnf); repeat' ((first | intro g | refine sAct_fn (by assumption) (by first | assumption | rfl | (simp only [V.arePure, V.isPure, Bool.and_self, Bool.true_and, Bool.and_true, *])) (h1) rfl ?_ | refine st ?_ | (first | refine b1 ?_ ?_ | refine b2 ?_ ?_ | refine Br.mk ?_ ?_) <;> intro hc | exact rfl) <;> conv => whnf)
    exact NxtS.mk (2, g) (by first | omega | (dsimp only; omega)) (by omega) (by (refine ⟨?_, ?_⟩ <;> repeat' (first | exact True.intro | refine ai ?_ | refine And.intro ?_ ?_)))
  · simp only [c3g]
    (conv => whnf); repeat' ((first | intro g | refine CallS.mk _ (plim_ev _) ?_ | refine st ?_ | (first | refine b1 ?_ ?_ | refine b2 ?_ ?_ | refine Br.mk ?_ ?_) <;> intro hc | exact rfl) <;> conv => whnf)
end Go.AM
set_option maxRecDepth 20000
namespace Go.AM
set_option maxHeartbeats 1000000 in
theorem pev_o10i {x0 x1 : Ex} {ev : Envi} {v0 : Int} {v1 : Int} (h0 : Ev E 392 [x0.v, ev.v] ⟨.iface 3 (vi v0), []⟩) (h1 : Ev E 392 [x1.v, ev.v] ⟨.iface 3 (vi v1), []⟩) (nl : Bool) : Ev E 392 [(Ex.mk 10 0 zeroVa nl [x0, x1]).v, ev.v] ⟨.iface 3 (vi (lim (w64 (v0 * v1)))), []⟩ := by
  have hm2 : modesOf E 392 = [] := rfl
  have hev : ev.v = .agg [vi ev.kind, .str ev.cls, .str ev.name, vi ev.weight, vi ev.level, .bool ev.stairs, vi ev.scale, vi ev.hour, vi ev.reader] := rfl
  obtain ⟨A0, B0, C0, D0, E0, F0, L0, hv0, hL0, hp0⟩ := x0.form2
  rw [hv0, hev] at h0
  obtain ⟨A1, B1, C1, D1, E1, F1, L1, hv1, hL1, hp1⟩ := x1.form2
  rw [hv1, hev] at h1
  rw [hev, Ex.v_eq]
  simp only [List.map_cons, List.map_nil, lv_cons, zeroVa, hv0, hv1]
  refine Ev.of_s' E_392 (X_392 _) rfl ?_
  (conv => whnf); repeat' ((first | intro g | refine st ?_ | (first | refine b1 ?_ ?_ | refine b2 ?_ ?_ | refine Br.mk ?_ ?_) <;> intro hc | exact rfl) <;> conv => whnf)
  rename_i g48 g64
  refine LoopS.by (fun ((i, g9) : Nat × Nat) => ⟨[(2, .ptr 48 g48 0 0), (3, .ptr 64 g64 0 0), (5, .sl 97 g9 0 i), (12, .lit 7 [.agg [vi A0, vi B0, vi C0, vi D0, .bool E0, .str F0, L0], .agg [vi A1, vi B1, vi C1, vi D1, .bool E1, .str F1, L1]]), (13, vnat 2), (14, vnat i)], [(48, ⟨g48, 7, false, false, some [.agg [vi 10, vi 0, vi 0, vi 0, .bool false, .str [], .lit 7 [.agg [vi A0, vi B0, vi C0, vi D0, .bool E0, .str F0, L0], .agg [vi A1, vi B1, vi C1, vi D1, .bool E1, .str F1, L1]]]]⟩), (64, ⟨g64, 9, false, false, some [.agg [vi ev.kind, .str ev.cls, .str ev.name, vi ev.weight, vi ev.level, .bool ev.stairs, vi ev.scale, vi ev.hour, vi ev.reader]]⟩), (97, ⟨g9, 1, true, false, some (c3g i (.iface 3 (vi v0)) (.iface 3 (vi v1)) (.nili))⟩)]⟩)
    (fun (i, g9) => i ≤ 2) (fun (i, g9) => 2 - i) (0, g) (by (refine ⟨?_, ?_⟩ <;> repeat' (first | exact True.intro | refine ai ?_ | refine And.intro ?_ ?_))) (by simp) ?_
  rintro ⟨i, g9⟩ hi
  try dsimp only at hi
  have hi2 : i = 0 ∨ i = 1 ∨ i = 2 := by omega
  rcases hi2 with rfl | rfl | rfl
  · simp only [c3g]
    (conv => whnf); repeat' ((first | intro g | refine sAct_fn (by assumption) (by first | assumption | rfl | (simp only [V.arePure, V.isPure, Bool.and_self, Bool.true_and, Bool.and_true, *])) (h0) rfl ?_ | refine st ?_ | (first | refine b1 ?_ ?_ | refine b2 ?_ ?_ | refine Br.mk ?_ ?_) <;> intro hc | exact rfl) <;> conv => whnf)
    exact NxtS.mk (1, g) (by first | omega | (dsimp only; omega)) (by omega) (by (refine ⟨?_, ?_⟩ <;> repeat' (first | exact True.intro | refine ai ?_ | refine And.intro ?_ ?_)))
  · simp only [c3g]
    (conv => whnf); repeat' ((first | intro g | refine sAct_fn (by assumption) (by first | assumption | rfl | (simp only [V.arePure, V.isPure, Bool.and_self, Bool.true_and, Bool.and_true, *])) (h1) rfl ?_ | refine st ?_ | (first | refine b1 ?_ ?_ | refine b2 ?_ ?_ | refine Br.mk ?_ ?_) <;> intro hc | exact rfl) <;> conv => whnf)
    exact NxtS.mk (2, g) (by first | omega | (dsimp only; omega)) (by omega) (by (refine ⟨?_, ?_⟩ <;> repeat' (first | exact True.intro | refine ai ?_ | refine And.intro ?_ ?_)))
  · simp only [c3g]
    (conv => whnf); repeat' ((first | intro g | refine CallS.mk _ (plim_ev _) ?_ | refine st ?_ | (first | refine b1 ?_ ?_ | refine b2 ?_ ?_ | refine Br.mk ?_ ?_) <;> intro hc | exact rfl) <;> conv => whnf)
end Go.AM
set_option maxRecDepth 20000
namespace Go.AM
set_option maxHeartbeats 1000000 in
theorem pev_o11i {x0 x1 : Ex} {ev : Envi} {v0 : Int} {v1 : Int} (h0 : Ev E 392 [x0.v, ev.v] ⟨.iface 3 (vi v0), []⟩) (h1 : Ev E 392 [x1.v, ev.v] ⟨.iface 3 (vi v1), []⟩) (nl : Bool) : Ev E 392 [(Ex.mk 11 0 zeroVa nl [x0, x1]).v, ev.v] ⟨.iface 3 (vi (imin v0 v1)), []⟩ := by
  have hm2 : modesOf E 392 = [] := rfl
  have hev : ev.v = .agg [vi ev.kind, .str ev.cls, .str ev.name, vi ev.weight, vi ev.level, .bool ev.stairs, vi ev.scale, vi ev.hour, vi ev.reader] := rfl
  obtain ⟨A0, B0, C0, D0, E0, F0, L0, hv0, hL0, hp0⟩ := x0.form2
  rw [hv0, hev] at h0
  obtain ⟨A1, B1, C1, D1, E1, F1, L1, hv1, hL1, hp1⟩ := x1.form2
  rw [hv1, hev] at h1
  rw [hev, Ex.v_eq]
  simp only [List.map_cons, List.map_nil, lv_cons, zeroVa, hv0, hv1]
  refine Ev.of_s' E_392 (X_392 _) rfl ?_
  (conv => whnf); repeat' ((first | intro g | refine st ?_ | (first | refine b1 ?_ ?_ | refine b2 ?_ ?_ | refine Br.mk ?_ ?_) <;> intro hc | exact rfl) <;> conv => whnf)
  rename_i g48 g64
  refine LoopS.by (fun ((i, g9) : Nat × Nat) => ⟨[(2, .ptr 48 g48 0 0), (3, .ptr 64 g64 0 0), (5, .sl 97 g9 0 i), (12, .lit 7 [.agg [vi A0, vi B0, vi C0, vi D0, .bool E0, .str F0, L0], .agg [vi A1, vi B1, vi C1, vi D1, .bool E1, .str F1, L1]]), (13, vnat 2), (14, vnat i)], [(48, ⟨g48, 7, false, false, some [.agg [vi 11, vi 0, vi 0, vi 0, .bool false, .str [], .lit 7 [.agg [vi A0, vi B0, vi C0, vi D0, .bool E0, .str F0, L0], .agg [vi A1, vi B1, vi C1, vi D1, .bool E1, .str F1, L1]]]]⟩), (64, ⟨g64, 9, false, false, some [.agg [vi ev.kind, .str ev.cls, .str ev.name, vi ev.weight, vi ev.level, .bool ev.stairs, vi ev.scale, vi ev.hour, vi ev.reader]]⟩), (97, ⟨g9, 1, true, false, some (c3g i (.iface 3 (vi v0)) (.iface 3 (vi v1)) (.nili))⟩)]⟩)
    (fun (i, g9) => i ≤ 2) (fun (i, g9) => 2 - i) (0, g) (by (refine ⟨?_, ?_⟩ <;> repeat' (first | exact True.intro | refine ai ?_ | refine And.intro ?_ ?_))) (by simp) ?_
  rintro ⟨i, g9⟩ hi
  try dsimp only at hi
  have hi2 : i = 0 ∨ i = 1 ∨ i = 2 := by omega
  rcases hi2 with rfl | rfl | rfl
  · simp only [c3g]
    (conv => whnf); repeat' ((first | intro g | refine sAct_fn (by assumption) (by first | assumption | rfl | (simp only [V.arePure, V.isPure, Bool.and_self, Bool.true_and, Bool.and_true, *])) (h0) rfl ?_ | refine st ?_ | (first | refine b1 ?_ ?_ | refine b2 ?_ ?_ | refine Br.mk ?_ ?_) <;> intro hc | exact rfl) <;> conv => whnf)
    exact NxtS.mk (1, g) (by first | omega | (dsimp only; omega)) (by omega) (by (refine ⟨?_, ?_⟩ <;> repeat' (first | exact True.intro | refine ai ?_ | refine And.intro ?_ ?_)))
  · simp only [c3g]
    (conv => whnf); repeat' ((first | intro g | refine sAct_fn (by assumption) (by first | assumption | rfl | (simp only [V.arePure, V.isPure, Bool.and_self, Bool.true_and, Bool.and_true, *])) (h1) rfl ?_ | refine st ?_ | (first | refine b1 ?_ ?_ | refine b2 ?_ ?_ | refine Br.mk ?_ ?_) <;> intro hc | exact rfl) <;> conv => whnf)
    exact NxtS.mk (2, g) (by first | omega | (dsimp only; omega)) (by omega) (by (refine ⟨?_, ?_⟩ <;> repeat' (first | exact True.intro | refine ai ?_ | refine And.intro ?_ ?_)))
  · simp only [c3g]
    (conv => whnf); repeat' ((first | intro g | refine st ?_ | (first | refine b1 ?_ ?_ | refine b2 ?_ ?_ | refine Br.mk ?_ ?_) <;> intro hc | exact rfl) <;> conv => whnf)
end Go.AM
set_option maxRecDepth 20000
namespace Go.AM
set_option maxHeartbeats 1000000 in
theorem pev_o12i {x0 x1 : Ex} {ev : Envi} {v0 : Int} {v1 : Int} (h0 : Ev E 392 [x0.v, ev.v] ⟨.iface 3 (vi v0), []⟩) (h1 : Ev E 392 [x1.v, ev.v] ⟨.iface 3 (vi v1), []⟩) (nl : Bool) : Ev E 392 [(Ex.mk 12 0 zeroVa nl [x0, x1]).v, ev.v] ⟨.iface 3 (vi (imax v0 v1)), []⟩ := by
  have hm2 : modesOf E 392 = [] := rfl
  have hev : ev.v = .agg [vi ev.kind, .str ev.cls, .str ev.name, vi ev.weight, vi ev.level, .bool ev.stairs, vi ev.scale, vi ev.hour, vi ev.reader] := rfl
  obtain ⟨A0, B0, C0, D0, E0, F0, L0, hv0, hL0, hp0⟩ := x0.form2
  rw [hv0, hev] at h0
  obtain ⟨A1, B1, C1, D1, E1, F1, L1, hv1, hL1, hp1⟩ := x1.form2
  rw [hv1, hev] at h1
  rw [hev, Ex.v_eq]
  simp only [List.map_cons, List.map_nil, lv_cons, zeroVa, hv0, hv1]
  refine Ev.of_s' E_392 (X_392 _) rfl ?_
  (conv => whnf); repeat' ((first | intro g | refine st ?_ | (first | refine b1 ?_ ?_ | refine b2 ?_ ?_ | refine Br.mk ?_ ?_) <;> intro hc | exact rfl) <;> conv => whnf)
  rename_i g48 g64
  refine LoopS.by (fun ((i, g9) : Nat × Nat) => ⟨[(2, .ptr 48 g48 0 0), (3, .ptr 64 g64 0 0), (5, .sl 97 g9 0 i), (12, .lit 7 [.agg [vi A0, vi B0, vi C0, vi D0, .bool E0, .str F0, L0], .agg [vi A1, vi B1, vi C1, vi D1, .bool E1, .str F1, L1]]), (13, vnat 2), (14, vnat i)], [(48, ⟨g48, 7, false, false, some [.agg [vi 12, vi 0, vi 0, vi 0, .bool false, .str [], .lit 7 [.agg [vi A0, vi B0, vi C0, vi D0, .bool E0, .str F0, L0], .agg [vi A1, vi B1, vi C1, vi D1, .bool E1, .str F1, L1]]]]⟩), (64, ⟨g64, 9, false, false, some [.agg [vi ev.kind, .str ev.cls, .str ev.name, vi ev.weight, vi ev.level, .bool ev.stairs, vi ev.scale, vi ev.hour, vi ev.reader]]⟩), (97, ⟨g9, 1, true, false, some (c3g i (.iface 3 (vi v0)) (.iface 3 (vi v1)) (.nili))⟩)]⟩)
    (fun (i, g9) => i ≤ 2) (fun (i, g9) => 2 - i) (0, g) (by (refine ⟨?_, ?_⟩ <;> repeat' (first | exact True.intro | refine ai ?_ | refine And.intro ?_ ?_))) (by simp) ?_
  rintro ⟨i, g9⟩ hi
  try dsimp only at hi
  have hi2 : i = 0 ∨ i = 1 ∨ i = 2 := by omega
  rcases hi2 with rfl | rfl | rfl
  · simp only [c3g]
    (conv => whnf); repeat' ((first | intro g | refine sAct_fn (by assumption) (by first | assumption | rfl | (simp only [V.arePure, V.isPure, Bool.and_self, Bool.true_and, Bool.and_true, *])) (h0) rfl ?_ | refine st ?_ | (first | refine b1 ?_ ?_ | refine b2 ?_ ?_ | refine Br.mk ?_ ?_) <;> intro hc | exact rfl) <;> conv => whnf)
    exact NxtS.mk (1, g) (by first | omega | (dsimp only; omega)) (by omega) (by (refine ⟨?_, ?_⟩ <;> repeat' (first | exact True.intro | refine ai ?_ | refine And.intro ?_ ?_)))
  · simp only [c3g]
    (conv => whnf); repeat' ((first | intro g | refine sAct_fn (by assumption) (by first | assumption | rfl | (simp only [V.arePure, V.isPure, Bool.and_self, Bool.true_and, Bool.and_true, *])) (h1) rfl ?_ | refine st ?_ | (first | refine b1 ?_ ?_ | refine b2 ?_ ?_ | refine Br.mk ?_ ?_) <;> intro hc | exact rfl) <;> conv => whnf)
    exact NxtS.mk (2, g) (by first | omega | (dsimp only; omega)) (by omega) (by (refine ⟨?_, ?_⟩ <;> repeat' (first | exact True.intro | refine ai ?_ | refine And.intro ?_ ?_)))
  · simp only [c3g]
    (conv => whnf); repeat' ((first | intro g | refine st ?_ | (first | refine b1 ?_ ?_ | refine b2 ?_ ?_ | refine Br.mk ?_ ?_) <;> intro hc | exact rfl) <;> conv => whnf)
end Go.AM
set_option maxRecDepth 20000
namespace Go.AM
set_option maxHeartbeats 1000000 in
theorem pev_fi {x0 x1 x2 : Ex} {ev : Envi} {v0 : Bool} {v1 : Int} {v2 : Int} (h0 : Ev E 392 [x0.v, ev.v] ⟨.iface 4 (.bool v0), []⟩) (h1 : Ev E 392 [x1.v, ev.v] ⟨.iface 3 (vi v1), []⟩) (h2 : Ev E 392 [x2.v, ev.v] ⟨.iface 3 (vi v2), []⟩) (nl : Bool) : Ev E 392 [(Ex.mk 13 0 zeroVa nl [x0, x1, x2]).v, ev.v] ⟨bif v0 then (.iface 3 (vi v1)) else (.iface 3 (vi v2)), []⟩ := by
  have hm2 : modesOf E 392 = [] := rfl
  have hev : ev.v = .agg [vi ev.kind, .str ev.cls, .str ev.name, vi ev.weight, vi ev.level, .bool ev.stairs, vi ev.scale, vi ev.hour, vi ev.reader] := rfl
  obtain ⟨A0, B0, C0, D0, E0, F0, L0, hv0, hL0, hp0⟩ := x0.form2
  rw [hv0, hev] at h0
  obtain ⟨A1, B1, C1, D1, E1, F1, L1, hv1, hL1, hp1⟩ := x1.form2
  rw [hv1, hev] at h1
  obtain ⟨A2, B2, C2, D2, E2, F2, L2, hv2, hL2, hp2⟩ := x2.form2
  rw [hv2, hev] at h2
  rw [hev, Ex.v_eq]
  simp only [List.map_cons, List.map_nil, lv_cons, zeroVa, hv0, hv1, hv2]
  refine Ev.of_s' E_392 (X_392 _) rfl ?_
  (conv => whnf); repeat' ((first | intro g | refine st ?_ | (first | refine b1 ?_ ?_ | refine b2 ?_ ?_ | refine Br.mk ?_ ?_) <;> intro hc | exact rfl) <;> conv => whnf)
  rename_i g48 g64
  refine LoopS.by (fun ((i, g9) : Nat × Nat) => ⟨[(2, .ptr 48 g48 0 0), (3, .ptr 64 g64 0 0), (5, .sl 97 g9 0 i), (12, .lit 7 [.agg [vi A0, vi B0, vi C0, vi D0, .bool E0, .str F0, L0], .agg [vi A1, vi B1, vi C1, vi D1, .bool E1, .str F1, L1], .agg [vi A2, vi B2, vi C2, vi D2, .bool E2, .str F2, L2]]), (13, vnat 3), (14, vnat i)], [(48, ⟨g48, 7, false, false, some [.agg [vi 13, vi 0, vi 0, vi 0, .bool false, .str [], .lit 7 [.agg [vi A0, vi B0, vi C0, vi D0, .bool E0, .str F0, L0], .agg [vi A1, vi B1, vi C1, vi D1, .bool E1, .str F1, L1], .agg [vi A2, vi B2, vi C2, vi D2, .bool E2, .str F2, L2]]]]⟩), (64, ⟨g64, 9, false, false, some [.agg [vi ev.kind, .str ev.cls, .str ev.name, vi ev.weight, vi ev.level, .bool ev.stairs, vi ev.scale, vi ev.hour, vi ev.reader]]⟩), (97, ⟨g9, 1, true, false, some (c3g i (.iface 4 (.bool v0)) (.iface 3 (vi v1)) (.iface 3 (vi v2)))⟩)]⟩)
    (fun (i, g9) => i ≤ 3) (fun (i, g9) => 3 - i) (0, g) (by (refine ⟨?_, ?_⟩ <;> repeat' (first | exact True.intro | refine ai ?_ | refine And.intro ?_ ?_))) (by simp) ?_
  rintro ⟨i, g9⟩ hi
  try dsimp only at hi
  have hi2 : i = 0 ∨ i = 1 ∨ i = 2 ∨ i = 3 := by omega
  rcases hi2 with rfl | rfl | rfl | rfl
  · simp only [c3g]
    (conv => whnf); repeat' ((first | intro g | refine sAct_fn (by assumption) (by first | assumption | rfl | (simp only [V.arePure, V.isPure, Bool.and_self, Bool.true_and, Bool.and_true, *])) (h0) rfl ?_ | refine st ?_ | (first | refine b1 ?_ ?_ | refine b2 ?_ ?_ | refine Br.mk ?_ ?_) <;> intro hc | exact rfl) <;> conv => whnf)
    exact NxtS.mk (1, g) (by first | omega | (dsimp only; omega)) (by omega) (by (refine ⟨?_, ?_⟩ <;> repeat' (first | exact True.intro | refine ai ?_ | refine And.intro ?_ ?_)))
  · simp only [c3g]
    (conv => whnf); repeat' ((first | intro g | refine sAct_fn (by assumption) (by first | assumption | rfl | (simp only [V.arePure, V.isPure, Bool.and_self, Bool.true_and, Bool.and_true, *])) (h1) rfl ?_ | refine st ?_ | (first | refine b1 ?_ ?_ | refine b2 ?_ ?_ | refine Br.mk ?_ ?_) <;> intro hc | exact rfl) <;> conv => whnf)
    exact NxtS.mk (2, g) (by first | omega | (dsimp only; omega)) (by omega) (by (refine ⟨?_, ?_⟩ <;> repeat' (first | exact True.intro | refine ai ?_ | refine And.intro ?_ ?_)))
  · simp only [c3g]
    (conv => whnf); repeat' ((first | intro g | refine sAct_fn (by assumption) (by first | assumption | rfl | (simp only [V.arePure, V.isPure, Bool.and_self, Bool.true_and, Bool.and_true, *])) (h2) rfl ?_ | refine st ?_ | (first | refine b1 ?_ ?_ | refine b2 ?_ ?_ | refine Br.mk ?_ ?_) <;> intro hc | exact rfl) <;> conv => whnf)
    exact NxtS.mk (3, g) (by first | omega | (dsimp only; omega)) (by omega) (by (refine ⟨?_, ?_⟩ <;> repeat' (first | exact True.intro | refine ai ?_ | refine And.intro ?_ ?_)))
  · simp only [c3g]
    cases v0
    all_goals (conv => whnf); repeat' ((first | intro g | refine st ?_ | (first | refine b1 ?_ ?_ | refine b2 ?_ ?_ | refine Br.mk ?_ ?_) <;> intro hc | exact rfl) <;> conv => whnf)
end Go.AM
set_option maxRecDepth 20000
namespace Go.AM
set_option maxHeartbeats 1000000 in
theorem pev_fb {x0 x1 x2 : Ex} {ev : Envi} {v0 : Bool} {v1 : Bool} {v2 : Bool} (h0 : Ev E 392 [x0.v, ev.v] ⟨.iface 4 (.bool v0), []⟩) (h1 : Ev E 392 [x1.v, ev.v] ⟨.iface 4 (.bool v1), []⟩) (h2 : Ev E 392 [x2.v, ev.v] ⟨.iface 4 (.bool v2), []⟩) (nl : Bool) : Ev E 392 [(Ex.mk 13 0 zeroVa nl [x0, x1, x2]).v, ev.v] ⟨bif v0 then (.iface 4 (.bool v1)) else (.iface 4 (.bool v2)), []⟩ := by
  have hm2 : modesOf E 392 = [] := rfl
  have hev : ev.v = .agg [vi ev.kind, .str ev.cls, .str ev.name, vi ev.weight, vi ev.level, .bool ev.stairs, vi ev.scale, vi ev.hour, vi ev.reader] := rfl
  obtain ⟨A0, B0, C0, D0, E0, F0, L0, hv0, hL0, hp0⟩ := x0.form2
  rw [hv0, hev] at h0
  obtain ⟨A1, B1, C1, D1, E1, F1, L1, hv1, hL1, hp1⟩ := x1.form2
  rw [hv1, hev] at h1
  obtain ⟨A2, B2, C2, D2, E2, F2, L2, hv2, hL2, hp2⟩ := x2.form2
  rw [hv2, hev] at h2
  rw [hev, Ex.v_eq]
  simp only [List.map_cons, List.map_nil, lv_cons, zeroVa, hv0, hv1, hv2]
  refine Ev.of_s' E_392 (X_392 _) rfl ?_
  (conv => whnf); repeat' ((first | intro g | refine st ?_ | (first | refine b1 ?_ ?_ | refine b2 ?_ ?_ | refine Br.mk ?_ ?_) <;> intro hc | exact rfl) <;> conv => whnf)
  rename_i g48 g64
  refine LoopS.by (fun ((i, g9) : Nat × Nat) => ⟨[(2, .ptr 48 g48 0 0), (3, .ptr 64 g64 0 0), (5, .sl 97 g9 0 i), (12, .lit 7 [.agg [vi A0, vi B0, vi C0, vi D0, .bool E0, .str F0, L0], .agg [vi A1, vi B1, vi C1, vi D1, .bool E1, .str F1, L1], .agg [vi A2, vi B2, vi C2, vi D2, .bool E2, .str F2, L2]]), (13, vnat 3), (14, vnat i)], [(48, ⟨g48, 7, false, false, some [.agg [vi 13, vi 0, vi 0, vi 0, .bool false, .str [], .lit 7 [.agg [vi A0, vi B0, vi C0, vi D0, .bool E0, .str F0, L0], .agg [vi A1, vi B1, vi C1, vi D1, .bool E1, .str F1, L1], .agg [vi A2, vi B2, vi C2, vi D2, .bool E2, .str F2, L2]]]]⟩), (64, ⟨g64, 9, false, false, some [.agg [vi ev.kind, .str ev.cls, .str ev.name, vi ev.weight, vi ev.level, .bool ev.stairs, vi ev.scale, vi ev.hour, vi ev.reader]]⟩), (97, ⟨g9, 1, true, false, some (c3g i (.iface 4 (.bool v0)) (.iface 4 (.bool v1)) (.iface 4 (.bool v2)))⟩)]⟩)
    (fun (i, g9) => i ≤ 3) (fun (i, g9) => 3 - i) (0, g) (by (refine ⟨?_, ?_⟩ <;> repeat' (first | exact True.intro | refine ai ?_ | refine And.intro ?_ ?_))) (by simp) ?_
  rintro ⟨i, g9⟩ hi
  try dsimp only at hi
  have hi2 : i = 0 ∨ i = 1 ∨ i = 2 ∨ i = 3 := by omega
  rcases hi2 with rfl | rfl | rfl | rfl
  · simp only [c3g]
    (conv => whnf); repeat' ((first | intro g | refine sAct_fn (by assumption) (by first | assumption | rfl | (simp only [V.arePure, V.isPure, Bool.and_self, Bool.true_and, Bool.and_true, *])) (h0) rfl ?_ | refine st ?_ | (first | refine b1 ?_ ?_ | refine b2 ?_ ?_ | refine Br.mk ?_ ?_) <;> intro hc | exact rfl) <;> conv => whnf)
    exact NxtS.mk (1, g) (by first | omega | (dsimp only; omega)) (by omega) (by (refine ⟨?_, ?_⟩ <;> repeat' (first | exact True.intro | refine ai ?_ | refine And.intro ?_ ?_)))
  · simp only [c3g]
    (conv => whnf); repeat' ((first | intro g | refine sAct_fn (by assumption) (by first | assumption | rfl | (simp only [V.arePure, V.isPure, Bool.and_self, Bool.true_and, Bool.and_true, *])) (h1) rfl ?_ | refine st ?_ | (first | refine b1 ?_ ?_ | refine b2 ?_ ?_ | refine Br.mk ?_ ?_) <;> intro hc | exact rfl) <;> conv => whnf)
    exact NxtS.mk (2, g) (by first | omega | (dsimp only; omega)) (by omega) (by (refine ⟨?_, ?_⟩ <;> repeat' (first | exact True.intro | refine ai ?_ | refine And.intro ?_ ?_)))
  · simp only [c3g]
    (conv => whnf); repeat' ((first | intro g | refine sAct_fn (by assumption) (by first | assumption | rfl | (simp only [V.arePure, V.isPure, Bool.and_self, Bool.true_and, Bool.and_true, *])) (h2) rfl ?_ | refine st ?_ | (first | refine b1 ?_ ?_ | refine b2 ?_ ?_ | refine Br.mk ?_ ?_) <;> intro hc | exact rfl) <;> conv => whnf)
    exact NxtS.mk (3, g) (by first | omega | (dsimp only; omega)) (by omega) (by (refine ⟨?_, ?_⟩ <;> repeat' (first | exact True.intro | refine ai ?_ | refine And.intro ?_ ?_)))
  · simp only [c3g]
    cases v0
    all_goals (conv => whnf); repeat' ((first | intro g | refine st ?_ | (first | refine b1 ?_ ?_ | refine b2 ?_ ?_ | refine Br.mk ?_ ?_) <;> intro hc | exact rfl) <;> conv => whnf)
end Go.AM
set_option maxRecDepth 20000
namespace Go.AM
set_option maxHeartbeats 1000000 in
theorem pev_fs {x0 x1 x2 : Ex} {ev : Envi} {v0 : Bool} {v1 : Str} {v2 : Str} (h0 : Ev E 392 [x0.v, ev.v] ⟨.iface 4 (.bool v0), []⟩) (h1 : Ev E 392 [x1.v, ev.v] ⟨.iface 9 (.str v1), []⟩) (h2 : Ev E 392 [x2.v, ev.v] ⟨.iface 9 (.str v2), []⟩) (nl : Bool) : Ev E 392 [(Ex.mk 13 0 zeroVa nl [x0, x1, x2]).v, ev.v] ⟨bif v0 then (.iface 9 (.str v1)) else (.iface 9 (.str v2)), []⟩ := by
  have hm2 : modesOf E 392 = [] := rfl
  have hev : ev.v = .agg [vi ev.kind, .str ev.cls, .str ev.name, vi ev.weight, vi ev.level, .bool ev.stairs, vi ev.scale, vi ev.hour, vi ev.reader] := rfl
  obtain ⟨A0, B0, C0, D0, E0, F0, L0, hv0, hL0, hp0⟩ := x0.form2
  rw [hv0, hev] at h0
  obtain ⟨A1, B1, C1, D1, E1, F1, L1, hv1, hL1, hp1⟩ := x1.form2
  rw [hv1, hev] at h1
  obtain ⟨A2, B2, C2, D2, E2, F2, L2, hv2, hL2, hp2⟩ := x2.form2
  rw [hv2, hev] at h2
  rw [hev, Ex.v_eq]
  simp only [List.map_cons, List.map_nil, lv_cons, zeroVa, hv0, hv1, hv2]
  refine Ev.of_s' E_392 (X_392 _) rfl ?_
  (conv => whnf); repeat' ((first | intro g | refine st ?_ | (first | refine b1 ?_ ?_ | refine b2 ?_ ?_ | refine Br.mk ?_ ?_) <;> intro hc | exact rfl) <;> conv => whnf)
  rename_i g48 g64
  refine LoopS.by (fun ((i, g9) : Nat × Nat) => ⟨[(2, .ptr 48 g48 0 0), (3, .ptr 64 g64 0 0), (5, .sl 97 g9 0 i), (12, .lit 7 [.agg [vi A0, vi B0, vi C0, vi D0, .bool E0, .str F0, L0], .agg [vi A1, vi B1, vi C1, vi D1, .bool E1, .str F1, L1], .agg [vi A2, vi B2, vi C2, vi D2, .bool E2, .str F2, L2]]), (13, vnat 3), (14, vnat i)], [(48, ⟨g48, 7, false, false, some [.agg [vi 13, vi 0, vi 0, vi 0, .bool false, .str [], .lit 7 [.agg [vi A0, vi B0, vi C0, vi D0, .bool E0, .str F0, L0], .agg [vi A1, vi B1, vi C1, vi D1, .bool E1, .str F1, L1], .agg [vi A2, vi B2, vi C2, vi D2, .bool E2, .str F2, L2]]]]⟩), (64, ⟨g64, 9, false, false, some [.agg [vi ev.kind, .str ev.cls, .str ev.name, vi ev.weight, vi ev.level, .bool ev.stairs, vi ev.scale, vi ev.hour, vi ev.reader]]⟩), (97, ⟨g9, 1, true, false, some (c3g i (.iface 4 (.bool v0)) (.iface 9 (.str v1)) (.iface 9 (.str v2)))⟩)]⟩)
    (fun (i, g9) => i ≤ 3) (fun (i, g9) => 3 - i) (0, g) (by (refine ⟨?_, ?_⟩ <;> repeat' (first | exact True.intro | refine ai ?_ | refine And.intro ?_ ?_))) (by simp) ?_
  rintro ⟨i, g9⟩ hi
  try dsimp only at hi
  have hi2 : i = 0 ∨ i = 1 ∨ i = 2 ∨ i = 3 := by omega
  rcases hi2 with rfl | rfl | rfl | rfl
  · simp only [c3g]
    (conv => whnf); repeat' ((first | intro g | refine sAct_fn (by assumption) (by first | assumption | rfl | (simp only [V.arePure, V.isPure, Bool.and_self, Bool.true_and, Bool.and_true, *])) (h0) rfl ?_ | refine st ?_ | (first | refine b1 ?_ ?_ | refine b2 ?_ ?_ | refine Br.mk ?_ ?_) <;> intro hc | exact rfl) <;> conv => whnf)
    exact NxtS.mk (1, g) (by first | omega | (dsimp only; omega)) (by omega) (by (refine ⟨?_, ?_⟩ <;> repeat' (first | exact True.intro | refine ai ?_ | refine And.intro ?_ ?_)))
  · simp only [c3g]
    (conv => whnf); repeat' ((first | intro g | refine sAct_fn (by assumption) (by first | assumption | rfl | (simp only [V.arePure, V.isPure, Bool.and_self, Bool.true_and, Bool.and_true, *])) (h1) rfl ?_ | refine st ?_ | (first | refine b1 ?_ ?_ | refine b2 ?_ ?_ | refine Br.mk ?_ ?_) <;> intro hc | exact rfl) <;> conv => whnf)
    exact NxtS.mk (2, g) (by first | omega | (dsimp only; omega)) (by omega) (by (refine ⟨?_, ?_⟩ <;> repeat' (first | exact True.intro | refine ai ?_ | refine And.intro ?_ ?_)))
  · simp only [c3g]
    (conv => whnf); repeat' ((first | intro g | refine sAct_fn (by assumption) (by first | assumption | rfl | (simp only [V.arePure, V.isPure, Bool.and_self, Bool.true_and, Bool.and_true, *])) (h2) rfl ?_ | refine st ?_ | (first | refine b1 ?_ ?_ | refine b2 ?_ ?_ | refine Br.mk ?_ ?_) <;> intro hc | exact rfl) <;> conv => whnf)
    exact NxtS.mk (3, g) (by first | omega | (dsimp only; omega)) (by omega) (by (refine ⟨?_, ?_⟩ <;> repeat' (first | exact True.intro | refine ai ?_ | refine And.intro ?_ ?_)))
  · simp only [c3g]
    cases v0
    all_goals (conv => whnf); repeat' ((first | intro g | refine st ?_ | (first | refine b1 ?_ ?_ | refine b2 ?_ ?_ | refine Br.mk ?_ ?_) <;> intro hc | exact rfl) <;> conv => whnf)
end Go.AM
