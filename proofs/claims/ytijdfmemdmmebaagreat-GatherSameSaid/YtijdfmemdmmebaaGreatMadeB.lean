/-
  Texts of the proof, joined by program: SMadeI, SMadeJ, SFarA, SFarB, SFarC, SFarD, SMadeK. Own work.
-/
import Derived.Test.YtijdfmemdmmebaaGreatMadeA
import Derived.Test.YtijdfmemdmmebaaGreatData
set_option linter.unusedSimpArgs false
set_option linter.unusedVariables false
set_option maxRecDepth 20000
namespace Go.AM

theorem stop_ev (i j : Int) : ∃ p : Pt, Ev E 120 [vi i, vi j] ⟨p.v, []⟩ := by
  have key := Ev.of_s (R := fun r => ∃ p : Pt, r = ⟨p.v, []⟩) E_120 (X_120 [vi i, vi j]) rfl ?_
  · obtain ⟨res, h1, p, rfl⟩ := key
    exact ⟨p, h1⟩
  (conv => whnf); repeat' ((first | intro g | refine st ?_ | (refine Wit.strS ?_; intro s) | (first | refine b1 ?_ ?_ | refine b2 ?_ ?_ | refine Br.mk ?_ ?_) <;> intro hc | exact rfl) <;> conv => whnf)
  exact ⟨⟨_, _⟩, rfl⟩

def WFit (ws : List Way) (n : Nat) : Prop := ws.length ≤ n ∧ ∀ w ∈ ws, LineFit w.line
theorem WFit.snoc {es : List Way} {n : Nat} {e : Way} (h : WFit es n) (k : LineFit e.line) : WFit (es ++ [e]) (n + 1) :=
  ⟨by have := h.1; simp; omega, fun x hx => by
    rcases List.mem_append.1 hx with hx | hx
    · exact h.2 x hx
    · have : x = e := by simpa using hx
      subst this; exact k⟩
theorem WFit.mono {es : List Way} {n m : Nat} (h : WFit es n) (k : n ≤ m) : WFit es m := ⟨Nat.le_trans h.1 k, h.2⟩

set_option maxHeartbeats 4000000 in
theorem way_ex {l : List Int} (hl : l.length < 9223372036854775808) {ws : List Way} {n : Nat} (hw : WFit ws n) (hn : n < 1000) (p q : Pt) (level : Int) (a0 : Nat) :
    ∃ res, Ev E 119 [.msl 8 (ws.map Way.v) 0 ws.length, p.v, q.v, vi level, .mptr 2 [drawV l a0] 0 0] res ∧ ∃ (ws' : List Way) (a b : Nat), WFit ws' (n + 1) ∧ res = ⟨.sl 0 b 0 ws'.length, [(b, ws'.map Way.v), (0, [drawV l a])]⟩ := by
  refine Ev.of_s E_119 (X_119 _) rfl ?_
  have hwl := hw.1
  have nx := fun k a (h : 0 < k) (h2 : k < 1000) => next_ev hl k (a := a) h (by omega)
  have hb := nextR_lt (l := l) (a := a0) (n := 3) (by omega) (by omega)
  have n3 := nx 3 a0 (by omega) (by omega)
  generalize hm : nextR l a0 3 = many at hb n3
  have e1 : IntKind.i64.wrap ((many : Int) + 1) = ((many + 1 : Nat) : Int) := (wrap64 (by omega) (by omega)).trans (by omega)
  have hidw : IntKind.i64.wrap (41 + (ws.length : Int)) = 41 + (ws.length : Int) := wrap64 (by omega) (by omega)
  (conv => whnf); repeat' ((first | intro g | refine CallS.mk _ (n3) ?_ | refine st ?_ | (refine Wit.strS ?_; intro s) | (first | refine b1 ?_ ?_ | refine b2 ?_ ?_ | refine Br.mk ?_ ?_) <;> intro hc | exact rfl) <;> conv => whnf)
  rename_i g6 g7 gb
  refine LoopS.by (fun ((k, L, a, gb) : Nat × List Pt × Nat × Nat) => ⟨[(0, .sl 0 0 0 ws.length), (4, .ptr 4 0 0 0), (6, .ptr 112 g6 0 0), (7, .ptr 128 g7 0 0), (11, .ptr 192 g 0 0), (12, vnat many), (13, vnat k)],
      [(0, ⟨0, 8, true, false, some (ws.map Way.v)⟩), (4, ⟨0, 2, false, false, some [drawV l a]⟩), (112, ⟨g6, 2, false, false, some [p.v]⟩), (128, ⟨g7, 2, false, false, some [q.v]⟩),
       (192, ⟨g, 8, false, false, some [.agg [vi (41 + (ws.length : Int)), .sl 352 gb 0 L.length, vi level, .str [], .str [], .bool false, vi 0, vi 0]]⟩), (352, ⟨gb, 2, true, false, some (L.map Pt.v)⟩)]⟩)
    (fun (k, L, _, _) => 1 ≤ k ∧ k ≤ many + 1 ∧ L.length = k) (fun (k, _) => many + 1 - k) (1, [p], nextA l a0, gb) ?_ ⟨by simp, by simp, by simp⟩ ?_
  · rw [hidw]; (refine ⟨?_, ?_⟩ <;> repeat' (first | exact True.intro | refine ai ?_ | refine And.intro ?_ ?_))
  rintro ⟨k, L, a, gb⟩ ⟨hk1, hk2, hL⟩
  try dsimp only at hk1 hk2 hL
  by_cases hlt : k ≤ many
  · have n17 := nx 17 a (by omega) (by omega)
    (conv => whnf); repeat' ((first | intro g | refine CallS.mk _ (n17) ?_ | refine st ?_ | (refine Wit.strS ?_; intro s) | (first | refine b1 ?_ ?_ | refine b2 ?_ ?_ | refine Br.mk ?_ ?_) <;> intro hc | exact rfl) <;> conv => whnf)
    all_goals exact NxtS.mk (k + 1, L ++ [⟨_, _⟩], nextA l a, g) (by first | omega | (dsimp only; omega)) ⟨(by first | omega | (dsimp only; omega)), (by first | omega | (dsimp only; omega)), by simp [hL]⟩ (by (refine ⟨?_, ?_⟩ <;> repeat' (first | exact True.intro | refine ai ?_ | refine And.intro ?_ ?_)))
  · have n2 := fun a => next_ev hl 2 (a := a) (by omega) (by omega)
    have n3 := fun a => next_ev hl 3 (a := a) (by omega) (by omega)
    have n4 := fun a => next_ev hl 4 (a := a) (by omega) (by omega)
    have n60 := fun a => next_ev hl 60 (a := a) (by omega) (by omega)
    (conv => whnf); repeat' ((first | intro g | refine CallS.mk _ (n2 _) ?_ | refine CallS.mk _ (n3 _) ?_ | refine CallS.mk _ (n4 _) ?_ | refine CallS.mk _ (n60 _) ?_ | refine st ?_ | (refine Wit.strS ?_; intro s) | (first | refine b1 ?_ ?_ | refine b2 ?_ ?_ | refine Br.mk ?_ ?_) <;> intro hc | exact rfl) <;> conv => whnf)
    have hLF : LineFit (L ++ [q]) := ⟨by simp; omega, by simp; omega⟩
    exact ⟨ws ++ [⟨_, L ++ [q], _, _, _, _, _, _⟩], _, _, hw.snoc hLF, by
      simp only [List.map_append, List.map_cons, List.map_nil, List.length_append, List.length_cons, List.length_nil, List.length_map, Way.v, ptsV]
      rfl⟩
end Go.AM

set_option maxRecDepth 20000
namespace Go.AM

set_option maxHeartbeats 4000000 in
theorem ways_ex {l : List Int} (hl : l.length < 9223372036854775808) : ∃ res, Ev E 86 [.lit 1 (l.map vi)] res ∧ ∃ ws : List Way, WFit ws 12 ∧ res = ⟨.own 8 (ws.map Way.v), []⟩ := by
  refine Ev.of_s E_86 (X_86 _) rfl ?_
  have n2 := fun a => next_ev hl 2 (a := a) (by omega) (by omega)
  have n3 := fun a => next_ev hl 3 (a := a) (by omega) (by omega)
  have n4 := fun a => next_ev hl 4 (a := a) (by omega) (by omega)
  (conv => whnf); repeat' ((first | intro g | refine st ?_ | (refine Wit.strS ?_; intro s) | (first | refine b1 ?_ ?_ | refine b2 ?_ ?_ | refine Br.mk ?_ ?_) <;> intro hc | exact rfl) <;> conv => whnf)
  rename_i gd
  refine LoopS.by (fun ((j, ws, a, g) : Nat × List Way × Nat × Nat) => ⟨[(3, .ptr 176 gd 0 0), (4, .sl 81 g 0 ws.length), (5, vnat j)], [(176, ⟨gd, 2, false, false, some [drawV l a]⟩), (81, ⟨g, 8, true, false, some (ws.map Way.v)⟩)]⟩)
    (fun (j, ws, _, _) => j ≤ 2 ∧ WFit ws (3 * j)) (fun (j, _) => 2 - j) (0, [], 0, g) (by (refine ⟨?_, ?_⟩ <;> repeat' (first | exact True.intro | refine ai ?_ | refine And.intro ?_ ?_))) ⟨by simp, by simp, by simp⟩ ?_
  rintro ⟨j, ws, a, g⟩ ⟨hj, hws⟩
  try dsimp only at hj hws
  by_cases hlt : j < 2
  · (conv => whnf); repeat' ((first | intro g | refine st ?_ | (refine Wit.strS ?_; intro s) | (first | refine b1 ?_ ?_ | refine b2 ?_ ?_ | refine Br.mk ?_ ?_) <;> intro hc | exact rfl) <;> conv => whnf)
    refine LoopS.by (fun ((i, ws, a, g) : Nat × List Way × Nat × Nat) => ⟨[(3, .ptr 176 gd 0 0), (4, .sl 81 g 0 ws.length), (5, vnat j), (6, vnat i)], [(176, ⟨gd, 2, false, false, some [drawV l a]⟩), (81, ⟨g, 8, true, false, some (ws.map Way.v)⟩)]⟩)
      (fun (i, ws, _, _) => i ≤ 3 ∧ WFit ws (3 * j + i)) (fun (i, _) => 3 - i) (0, ws, a, g) (by (refine ⟨?_, ?_⟩ <;> repeat' (first | exact True.intro | refine ai ?_ | refine And.intro ?_ ?_))) ⟨by simp, hws⟩ ?_
    clear hws
    rintro ⟨i, ws, a, g⟩ ⟨hi, hws⟩
    try dsimp only at hi hws
    by_cases hlt2 : i < 3
    · obtain ⟨p, hp⟩ := stop_ev i j
      obtain ⟨q, hq⟩ := stop_ev (IntKind.i64.wrap ((i : Int) + 1)) j
      (conv => whnf); repeat' ((first | intro g | refine CallS.mk _ (n2 _) ?_ | refine CallS.mk _ (hp) ?_ | refine CallS.mk _ (hq) ?_ | refine st ?_ | (refine Wit.strS ?_; intro s) | (first | refine b1 ?_ ?_ | refine b2 ?_ ?_ | refine Br.mk ?_ ?_) <;> intro hc | exact rfl) <;> conv => whnf)
      · refine CallS.ex (way_ex hl hws (by omega) p q 0 (nextA l a)) ?_
        rintro _ ⟨ws', a', b, hw', rfl⟩
        (conv => whnf); repeat' ((first | intro g | refine st ?_ | (refine Wit.strS ?_; intro s) | (first | refine b1 ?_ ?_ | refine b2 ?_ ?_ | refine Br.mk ?_ ?_) <;> intro hc | exact rfl) <;> conv => whnf)
        exact NxtS.mk (i + 1, ws', a', g + b) (by first | omega | (dsimp only; omega)) ⟨(by first | omega | (dsimp only; omega)), hw'⟩ (by (refine ⟨?_, ?_⟩ <;> repeat' (first | exact True.intro | refine ai ?_ | refine And.intro ?_ ?_)))
      · exact NxtS.mk (i + 1, ws, nextA l a, g) (by first | omega | (dsimp only; omega)) ⟨(by first | omega | (dsimp only; omega)), hws.mono (by omega)⟩ (by (refine ⟨?_, ?_⟩ <;> repeat' (first | exact True.intro | refine ai ?_ | refine And.intro ?_ ?_)))
    · (conv => whnf); repeat' ((first | intro g | refine st ?_ | (refine Wit.strS ?_; intro s) | (first | refine b1 ?_ ?_ | refine b2 ?_ ?_ | refine Br.mk ?_ ?_) <;> intro hc | exact rfl) <;> conv => whnf)
      exact NxtS.mk (j + 1, ws, a, g) (by first | omega | (dsimp only; omega)) ⟨(by first | omega | (dsimp only; omega)), hws.mono (by omega)⟩ (by (refine ⟨?_, ?_⟩ <;> repeat' (first | exact True.intro | refine ai ?_ | refine And.intro ?_ ?_)))
  · (conv => whnf); repeat' ((first | intro g | refine st ?_ | (refine Wit.strS ?_; intro s) | (first | refine b1 ?_ ?_ | refine b2 ?_ ?_ | refine Br.mk ?_ ?_) <;> intro hc | exact rfl) <;> conv => whnf)
    refine LoopS.by (fun ((i, ws, a, g) : Nat × List Way × Nat × Nat) => ⟨[(3, .ptr 176 gd 0 0), (4, .sl 81 g 0 ws.length), (7, vnat i)], [(176, ⟨gd, 2, false, false, some [drawV l a]⟩), (81, ⟨g, 8, true, false, some (ws.map Way.v)⟩)]⟩)
      (fun (i, ws, _, _) => i ≤ 4 ∧ WFit ws (6 + i)) (fun (i, _) => 4 - i) (0, ws, a, g) (by (refine ⟨?_, ?_⟩ <;> repeat' (first | exact True.intro | refine ai ?_ | refine And.intro ?_ ?_))) ⟨by simp, hws.mono (by omega)⟩ ?_
    clear hws
    rintro ⟨i, ws, a, g⟩ ⟨hi, hws⟩
    try dsimp only at hi hws
    by_cases hlt2 : i < 4
    · by_cases hlt3 : ws.length < 5
      · obtain ⟨p, hp⟩ := stop_ev i 0
        obtain ⟨q, hq⟩ := stop_ev i 1
        (conv => whnf); repeat' ((first | intro g | refine CallS.mk _ (n2 _) ?_ | refine CallS.mk _ (hp) ?_ | refine CallS.mk _ (hq) ?_ | refine st ?_ | (refine Wit.strS ?_; intro s) | (first | refine b1 ?_ ?_ | refine b2 ?_ ?_ | refine Br.mk ?_ ?_) <;> intro hc | exact rfl) <;> conv => whnf)
        · refine CallS.ex (way_ex hl hws (by omega) p q 0 (nextA l a)) ?_
          rintro _ ⟨ws', a', b, hw', rfl⟩
          (conv => whnf); repeat' ((first | intro g | refine st ?_ | (refine Wit.strS ?_; intro s) | (first | refine b1 ?_ ?_ | refine b2 ?_ ?_ | refine Br.mk ?_ ?_) <;> intro hc | exact rfl) <;> conv => whnf)
          exact NxtS.mk (i + 1, ws', a', g + b) (by first | omega | (dsimp only; omega)) ⟨(by first | omega | (dsimp only; omega)), hw'⟩ (by (refine ⟨?_, ?_⟩ <;> repeat' (first | exact True.intro | refine ai ?_ | refine And.intro ?_ ?_)))
        · exact NxtS.mk (i + 1, ws, nextA l a, g) (by first | omega | (dsimp only; omega)) ⟨(by first | omega | (dsimp only; omega)), hws.mono (by omega)⟩ (by (refine ⟨?_, ?_⟩ <;> repeat' (first | exact True.intro | refine ai ?_ | refine And.intro ?_ ?_)))
      · obtain ⟨p00, h00⟩ := stop_ev 0 0
        obtain ⟨p11, h11⟩ := stop_ev 1 1
        obtain ⟨p30, h30⟩ := stop_ev 3 0
        obtain ⟨p21, h21⟩ : ∃ f : Int → Pt, ∀ x, Ev E 120 [vi x, vi 1] ⟨(f x).v, []⟩ := ⟨fun x => (stop_ev x 1).choose, fun x => (stop_ev x 1).choose_spec⟩
        (conv => whnf); repeat' ((first | intro g | refine CallS.mk _ (n2 _) ?_ | refine CallS.mk _ (n3 _) ?_ | refine CallS.mk _ (n4 _) ?_ | refine CallS.mk _ (h00) ?_ | refine CallS.mk _ (h11) ?_ | refine CallS.mk _ (h30) ?_ | refine CallS.mk _ (h21 _) ?_ | refine st ?_ | (refine Wit.strS ?_; intro s) | (first | refine b1 ?_ ?_ | refine b2 ?_ ?_ | refine Br.mk ?_ ?_) <;> intro hc | exact rfl) <;> conv => whnf)
        · refine CallS.ex (way_ex hl hws (by omega) _ _ _ _) ?_
          rintro _ ⟨ws', a', b, hw', rfl⟩
          (conv => whnf); repeat' ((first | intro g | refine CallS.mk _ (n2 _) ?_ | refine CallS.mk _ (n3 _) ?_ | refine CallS.mk _ (n4 _) ?_ | refine CallS.mk _ (h00) ?_ | refine CallS.mk _ (h11) ?_ | refine CallS.mk _ (h30) ?_ | refine CallS.mk _ (h21 _) ?_ | refine st ?_ | (refine Wit.strS ?_; intro s) | (first | refine b1 ?_ ?_ | refine b2 ?_ ?_ | refine Br.mk ?_ ?_) <;> intro hc | exact rfl) <;> conv => whnf)
          · refine CallS.ex (way_ex hl hw' (by omega) _ _ _ _) ?_
            rintro _ ⟨ws2, a2, b2, hw2, rfl⟩
            (conv => whnf); repeat' ((first | intro g | refine CallS.mk _ (n2 _) ?_ | refine CallS.mk _ (n3 _) ?_ | refine CallS.mk _ (n4 _) ?_ | refine CallS.mk _ (h00) ?_ | refine CallS.mk _ (h11) ?_ | refine CallS.mk _ (h30) ?_ | refine CallS.mk _ (h21 _) ?_ | refine st ?_ | (refine Wit.strS ?_; intro s) | (first | refine b1 ?_ ?_ | refine b2 ?_ ?_ | refine Br.mk ?_ ?_) <;> intro hc | exact rfl) <;> conv => whnf)
            exact ⟨ws2, hw2.mono (by omega), rfl⟩
          · exact ⟨ws', hw'.mono (by omega), rfl⟩
        · refine CallS.ex (way_ex hl hws (by omega) _ _ _ _) ?_
          rintro _ ⟨ws', a', b, hw', rfl⟩
          (conv => whnf); repeat' ((first | intro g | refine CallS.mk _ (n2 _) ?_ | refine CallS.mk _ (n3 _) ?_ | refine CallS.mk _ (n4 _) ?_ | refine CallS.mk _ (h00) ?_ | refine CallS.mk _ (h11) ?_ | refine CallS.mk _ (h30) ?_ | refine CallS.mk _ (h21 _) ?_ | refine st ?_ | (refine Wit.strS ?_; intro s) | (first | refine b1 ?_ ?_ | refine b2 ?_ ?_ | refine Br.mk ?_ ?_) <;> intro hc | exact rfl) <;> conv => whnf)
          exact ⟨ws', hw'.mono (by omega), rfl⟩
        · exact ⟨ws, hws.mono (by omega), rfl⟩
    · obtain ⟨p00, h00⟩ := stop_ev 0 0
      obtain ⟨p11, h11⟩ := stop_ev 1 1
      obtain ⟨p30, h30⟩ := stop_ev 3 0
      obtain ⟨p21, h21⟩ : ∃ f : Int → Pt, ∀ x, Ev E 120 [vi x, vi 1] ⟨(f x).v, []⟩ := ⟨fun x => (stop_ev x 1).choose, fun x => (stop_ev x 1).choose_spec⟩
      (conv => whnf); repeat' ((first | intro g | refine CallS.mk _ (n2 _) ?_ | refine CallS.mk _ (n3 _) ?_ | refine CallS.mk _ (n4 _) ?_ | refine CallS.mk _ (h00) ?_ | refine CallS.mk _ (h11) ?_ | refine CallS.mk _ (h30) ?_ | refine CallS.mk _ (h21 _) ?_ | refine st ?_ | (refine Wit.strS ?_; intro s) | (first | refine b1 ?_ ?_ | refine b2 ?_ ?_ | refine Br.mk ?_ ?_) <;> intro hc | exact rfl) <;> conv => whnf)
      · refine CallS.ex (way_ex hl hws (by omega) _ _ _ _) ?_
        rintro _ ⟨ws', a', b, hw', rfl⟩
        (conv => whnf); repeat' ((first | intro g | refine CallS.mk _ (n2 _) ?_ | refine CallS.mk _ (n3 _) ?_ | refine CallS.mk _ (n4 _) ?_ | refine CallS.mk _ (h00) ?_ | refine CallS.mk _ (h11) ?_ | refine CallS.mk _ (h30) ?_ | refine CallS.mk _ (h21 _) ?_ | refine st ?_ | (refine Wit.strS ?_; intro s) | (first | refine b1 ?_ ?_ | refine b2 ?_ ?_ | refine Br.mk ?_ ?_) <;> intro hc | exact rfl) <;> conv => whnf)
        · refine CallS.ex (way_ex hl hw' (by omega) _ _ _ _) ?_
          rintro _ ⟨ws2, a2, b2, hw2, rfl⟩
          (conv => whnf); repeat' ((first | intro g | refine CallS.mk _ (n2 _) ?_ | refine CallS.mk _ (n3 _) ?_ | refine CallS.mk _ (n4 _) ?_ | refine CallS.mk _ (h00) ?_ | refine CallS.mk _ (h11) ?_ | refine CallS.mk _ (h30) ?_ | refine CallS.mk _ (h21 _) ?_ | refine st ?_ | (refine Wit.strS ?_; intro s) | (first | refine b1 ?_ ?_ | refine b2 ?_ ?_ | refine Br.mk ?_ ?_) <;> intro hc | exact rfl) <;> conv => whnf)
          exact ⟨ws2, hw2.mono (by omega), rfl⟩
        · exact ⟨ws', hw'.mono (by omega), rfl⟩
      · refine CallS.ex (way_ex hl hws (by omega) _ _ _ _) ?_
        rintro _ ⟨ws', a', b, hw', rfl⟩
        (conv => whnf); repeat' ((first | intro g | refine CallS.mk _ (n2 _) ?_ | refine CallS.mk _ (n3 _) ?_ | refine CallS.mk _ (n4 _) ?_ | refine CallS.mk _ (h00) ?_ | refine CallS.mk _ (h11) ?_ | refine CallS.mk _ (h30) ?_ | refine CallS.mk _ (h21 _) ?_ | refine st ?_ | (refine Wit.strS ?_; intro s) | (first | refine b1 ?_ ?_ | refine b2 ?_ ?_ | refine Br.mk ?_ ?_) <;> intro hc | exact rfl) <;> conv => whnf)
        exact ⟨ws', hw'.mono (by omega), rfl⟩
      · exact ⟨ws, hws.mono (by omega), rfl⟩
end Go.AM

set_option maxRecDepth 20000
set_option maxHeartbeats 4000000
namespace Go.AM

theorem sign_tot (x0 : Int) : ∃ r : Int, Ev E 283 [vi x0] ⟨vi r, []⟩ := by
  have key := Ev.of_s (R := fun res => ∃ r : Int, res = ⟨vi r, []⟩) E_283 (X_283 [vi x0]) rfl ?_
  · obtain ⟨res, h1, r, rfl⟩ := key
    exact ⟨r, h1⟩
  (conv => whnf); repeat' ((first | intro g | refine st ?_ | (first | refine b1 ?_ ?_ | refine b2 ?_ ?_ | refine Br.mk ?_ ?_) <;> intro hc | exact rfl) <;> conv => whnf)
  all_goals exact ⟨_, rfl⟩
noncomputable def signF (x0 : Int) : Int := (sign_tot x0).choose
theorem sign_ev (x0 : Int) : Ev E 283 [vi x0] ⟨vi (signF x0), []⟩ := (sign_tot x0).choose_spec

theorem size_tot (x0 : Int) : ∃ r : Int, Ev E 285 [vi x0] ⟨.int .u64 r, []⟩ := by
  have key := Ev.of_s (R := fun res => ∃ r : Int, res = ⟨.int .u64 r, []⟩) E_285 (X_285 [vi x0]) rfl ?_
  · obtain ⟨res, h1, r, rfl⟩ := key
    exact ⟨r, h1⟩
  (conv => whnf); repeat' ((first | intro g | refine st ?_ | (first | refine b1 ?_ ?_ | refine b2 ?_ ?_ | refine Br.mk ?_ ?_) <;> intro hc | exact rfl) <;> conv => whnf)
  all_goals exact ⟨_, rfl⟩
noncomputable def sizeF (x0 : Int) : Int := (size_tot x0).choose
theorem size_ev (x0 : Int) : Ev E 285 [vi x0] ⟨.int .u64 (sizeF x0), []⟩ := (size_tot x0).choose_spec

theorem product_tot (x0 x1 : Int) : ∃ r : Int × Int, Ev E 284 [.int .u64 x0, .int .u64 x1] ⟨.agg [.int .u64 r.1, .int .u64 r.2], []⟩ := by
  have key := Ev.of_s (R := fun res => ∃ r : Int × Int, res = ⟨.agg [.int .u64 r.1, .int .u64 r.2], []⟩) E_284 (X_284 [.int .u64 x0, .int .u64 x1]) rfl ?_
  · obtain ⟨res, h1, r, rfl⟩ := key
    exact ⟨r, h1⟩
  (conv => whnf); repeat' ((first | intro g | refine st ?_ | (first | refine b1 ?_ ?_ | refine b2 ?_ ?_ | refine Br.mk ?_ ?_) <;> intro hc | exact rfl) <;> conv => whnf)
  all_goals exact ⟨⟨_, _⟩, rfl⟩
noncomputable def productF (x0 x1 : Int) : Int × Int := (product_tot x0 x1).choose
theorem product_ev (x0 x1 : Int) : Ev E 284 [.int .u64 x0, .int .u64 x1] ⟨.agg [.int .u64 (productF x0 x1).1, .int .u64 (productF x0 x1).2], []⟩ := (product_tot x0 x1).choose_spec

theorem between_tot (x0 x1 x2 : Int) : ∃ r : Bool, Ev E 282 [vi x0, vi x1, vi x2] ⟨.bool r, []⟩ := by
  have key := Ev.of_s (R := fun res => ∃ r : Bool, res = ⟨.bool r, []⟩) E_282 (X_282 [vi x0, vi x1, vi x2]) rfl ?_
  · obtain ⟨res, h1, r, rfl⟩ := key
    exact ⟨r, h1⟩
  (conv => whnf); repeat' ((first | intro g | refine st ?_ | (first | refine b1 ?_ ?_ | refine b2 ?_ ?_ | refine Br.mk ?_ ?_) <;> intro hc | exact rfl) <;> conv => whnf)
  all_goals exact ⟨_, rfl⟩
noncomputable def betweenF (x0 x1 x2 : Int) : Bool := (between_tot x0 x1 x2).choose
theorem between_ev (x0 x1 x2 : Int) : Ev E 282 [vi x0, vi x1, vi x2] ⟨.bool (betweenF x0 x1 x2), []⟩ := (between_tot x0 x1 x2).choose_spec

theorem far_tot (x0 x1 x2 : Int) : ∃ r : Bool, Ev E 270 [.agg [vi x0, vi x1, vi x2]] ⟨.bool r, []⟩ := by
  have key := Ev.of_s (R := fun res => ∃ r : Bool, res = ⟨.bool r, []⟩) E_270 (X_270 [.agg [vi x0, vi x1, vi x2]]) rfl ?_
  · obtain ⟨res, h1, r, rfl⟩ := key
    exact ⟨r, h1⟩
  (conv => whnf); repeat' ((first | intro g | refine CallS.mk _ (between_ev _ _ _) ?_ | refine st ?_ | (first | refine b1 ?_ ?_ | refine b2 ?_ ?_ | refine Br.mk ?_ ?_) <;> intro hc | exact rfl) <;> conv => whnf)
  all_goals exact ⟨_, rfl⟩
noncomputable def farF (x0 x1 x2 : Int) : Bool := (far_tot x0 x1 x2).choose
theorem far_ev (x0 x1 x2 : Int) : Ev E 270 [.agg [vi x0, vi x1, vi x2]] ⟨.bool (farF x0 x1 x2), []⟩ := (far_tot x0 x1 x2).choose_spec

theorem bounded_tot (x0 x1 x2 : Int) : ∃ r : Bool, Ev E 198 [.agg [vi x0, vi x1, vi x2]] ⟨.bool r, []⟩ := by
  have key := Ev.of_s (R := fun res => ∃ r : Bool, res = ⟨.bool r, []⟩) E_198 (X_198 [.agg [vi x0, vi x1, vi x2]]) rfl ?_
  · obtain ⟨res, h1, r, rfl⟩ := key
    exact ⟨r, h1⟩
  (conv => whnf); repeat' ((first | intro g | refine st ?_ | (first | refine b1 ?_ ?_ | refine b2 ?_ ?_ | refine Br.mk ?_ ?_) <;> intro hc | exact rfl) <;> conv => whnf)
  all_goals exact ⟨_, rfl⟩
noncomputable def boundedF (x0 x1 x2 : Int) : Bool := (bounded_tot x0 x1 x2).choose
theorem bounded_ev (x0 x1 x2 : Int) : Ev E 198 [.agg [vi x0, vi x1, vi x2]] ⟨.bool (boundedF x0 x1 x2), []⟩ := (bounded_tot x0 x1 x2).choose_spec

theorem spotOf_ev (x y : Int) : Ev E 199 [.agg [vi x, vi y]] ⟨.agg [vi x, vi y, vi 1], []⟩ := by
  refine Ev.of_s' E_199 (X_199 _) rfl ?_
  (conv => whnf); repeat' ((first | intro g | refine st ?_ | (first | refine b1 ?_ ?_ | refine b2 ?_ ?_ | refine Br.mk ?_ ?_) <;> intro hc | exact rfl) <;> conv => whnf)

theorem sign2_tot (x0 x1 x2 x3 : Int) : ∃ r : Int, Ev E 271 [vi x0, vi x1, vi x2, vi x3] ⟨vi r, []⟩ := by
  have key := Ev.of_s (R := fun res => ∃ r : Int, res = ⟨vi r, []⟩) E_271 (X_271 [vi x0, vi x1, vi x2, vi x3]) rfl ?_
  · obtain ⟨res, h1, r, rfl⟩ := key
    exact ⟨r, h1⟩
  (conv => whnf); repeat' ((first | intro g | refine CallS.mk _ (sign_ev _) ?_ | refine CallS.mk _ (size_ev _) ?_ | refine CallS.mk _ (product_ev _ _) ?_ | refine st ?_ | (first | refine b1 ?_ ?_ | refine b2 ?_ ?_ | refine Br.mk ?_ ?_) <;> intro hc | exact rfl) <;> conv => whnf)
  · exact ⟨_, rfl⟩
  rename_i g11
  generalize hu : productF (sizeF x0) (sizeF x1) = u
  generalize hv : productF (sizeF x2) (sizeF x3) = v
  obtain ⟨u0, u1⟩ := u
  obtain ⟨v0, v1⟩ := v
  generalize hs : IntKind.i64.wrap (signF x0 * signF x1) = s
  refine LoopS.by (fun (k : Nat) => ⟨[(9, vi s), (11, .ptr 192 g11 0 0), (12, .ptr 208 g 0 0), (13, vnat k)], [(192, ⟨g11, 2, false, false, some [.agg [.int .u64 u0, .int .u64 u1]]⟩), (208, ⟨g, 2, false, false, some [.agg [.int .u64 v0, .int .u64 v1]]⟩)]⟩)
    (fun k => k ≤ 2) (fun k => 2 - k) 0 (by (refine ⟨?_, ?_⟩ <;> repeat' (first | exact True.intro | refine ai ?_ | refine And.intro ?_ ?_))) (by first | omega | (dsimp only; omega)) ?_
  intro k hk
  rcases (by omega : k = 0 ∨ k = 1 ∨ k = 2) with rfl | rfl | rfl
  · (conv => whnf); repeat' ((first | intro g | refine st ?_ | (first | refine b1 ?_ ?_ | refine b2 ?_ ?_ | refine Br.mk ?_ ?_) <;> intro hc | exact rfl) <;> conv => whnf)
    all_goals first | exact ⟨_, rfl⟩ | exact NxtS.mk 1 (by first | omega | (dsimp only; omega)) (by first | omega | (dsimp only; omega)) (by (refine ⟨?_, ?_⟩ <;> repeat' (first | exact True.intro | refine ai ?_ | refine And.intro ?_ ?_)))
  · (conv => whnf); repeat' ((first | intro g | refine st ?_ | (first | refine b1 ?_ ?_ | refine b2 ?_ ?_ | refine Br.mk ?_ ?_) <;> intro hc | exact rfl) <;> conv => whnf)
    all_goals first | exact ⟨_, rfl⟩ | exact NxtS.mk 2 (by first | omega | (dsimp only; omega)) (by first | omega | (dsimp only; omega)) (by (refine ⟨?_, ?_⟩ <;> repeat' (first | exact True.intro | refine ai ?_ | refine And.intro ?_ ?_)))
  · (conv => whnf); repeat' ((first | intro g | refine st ?_ | (first | refine b1 ?_ ?_ | refine b2 ?_ ?_ | refine Br.mk ?_ ?_) <;> intro hc | exact rfl) <;> conv => whnf)
    exact ⟨_, rfl⟩
noncomputable def sign2F (x0 x1 x2 x3 : Int) : Int := (sign2_tot x0 x1 x2 x3).choose
theorem sign2_ev (x0 x1 x2 x3 : Int) : Ev E 271 [vi x0, vi x1, vi x2, vi x3] ⟨vi (sign2F x0 x1 x2 x3), []⟩ := (sign2_tot x0 x1 x2 x3).choose_spec

theorem cmp_tot (x0 x1 x2 x3 : Int) : ∃ r : Int, Ev E 238 [.agg [vi x0, vi x1], .agg [vi x2, vi x3]] ⟨vi r, []⟩ := by
  have key := Ev.of_s (R := fun res => ∃ r : Int, res = ⟨vi r, []⟩) E_238 (X_238 [.agg [vi x0, vi x1], .agg [vi x2, vi x3]]) rfl ?_
  · obtain ⟨res, h1, r, rfl⟩ := key
    exact ⟨r, h1⟩
  (conv => whnf); repeat' ((first | intro g | refine CallS.mk _ (sign2_ev _ _ _ _) ?_ | refine st ?_ | (first | refine b1 ?_ ?_ | refine b2 ?_ ?_ | refine Br.mk ?_ ?_) <;> intro hc | exact rfl) <;> conv => whnf)
  all_goals exact ⟨_, rfl⟩
noncomputable def cmpF (x0 x1 x2 x3 : Int) : Int := (cmp_tot x0 x1 x2 x3).choose
theorem cmp_ev (x0 x1 x2 x3 : Int) : Ev E 238 [.agg [vi x0, vi x1], .agg [vi x2, vi x3]] ⟨vi (cmpF x0 x1 x2 x3), []⟩ := (cmp_tot x0 x1 x2 x3).choose_spec

theorem sside_tot (x0 x1 x2 x3 x4 : Int) : ∃ r : Int, Ev E 236 [vi x0, .agg [vi x1, vi x2], .agg [vi x3, vi x4]] ⟨vi r, []⟩ := by
  have key := Ev.of_s (R := fun res => ∃ r : Int, res = ⟨vi r, []⟩) E_236 (X_236 [vi x0, .agg [vi x1, vi x2], .agg [vi x3, vi x4]]) rfl ?_
  · obtain ⟨res, h1, r, rfl⟩ := key
    exact ⟨r, h1⟩
  (conv => whnf); repeat' ((first | intro g | refine CallS.mk _ (cmp_ev _ _ _ _) ?_ | refine st ?_ | (first | refine b1 ?_ ?_ | refine b2 ?_ ?_ | refine Br.mk ?_ ?_) <;> intro hc | exact rfl) <;> conv => whnf)
  all_goals exact ⟨_, rfl⟩
noncomputable def ssideF (x0 x1 x2 x3 x4 : Int) : Int := (sside_tot x0 x1 x2 x3 x4).choose
theorem sside_ev (x0 x1 x2 x3 x4 : Int) : Ev E 236 [vi x0, .agg [vi x1, vi x2], .agg [vi x3, vi x4]] ⟨vi (ssideF x0 x1 x2 x3 x4), []⟩ := (sside_tot x0 x1 x2 x3 x4).choose_spec

theorem above_tot (x0 x1 x2 x3 x4 : Int) : ∃ r : Bool, Ev E 237 [.agg [vi x0, vi x1, vi x2], .agg [vi x3, vi x4]] ⟨.bool r, []⟩ := by
  have key := Ev.of_s (R := fun res => ∃ r : Bool, res = ⟨.bool r, []⟩) E_237 (X_237 [.agg [vi x0, vi x1, vi x2], .agg [vi x3, vi x4]]) rfl ?_
  · obtain ⟨res, h1, r, rfl⟩ := key
    exact ⟨r, h1⟩
  (conv => whnf); repeat' ((first | intro g | refine CallS.mk _ (cmp_ev _ _ _ _) ?_ | refine st ?_ | (first | refine b1 ?_ ?_ | refine b2 ?_ ?_ | refine Br.mk ?_ ?_) <;> intro hc | exact rfl) <;> conv => whnf)
  all_goals exact ⟨_, rfl⟩
noncomputable def aboveF (x0 x1 x2 x3 x4 : Int) : Bool := (above_tot x0 x1 x2 x3 x4).choose
theorem above_ev (x0 x1 x2 x3 x4 : Int) : Ev E 237 [.agg [vi x0, vi x1, vi x2], .agg [vi x3, vi x4]] ⟨.bool (aboveF x0 x1 x2 x3 x4), []⟩ := (above_tot x0 x1 x2 x3 x4).choose_spec

theorem spotSide_tot (x0 x1 x2 x3 x4 x5 x6 x7 x8 : Int) : ∃ r : Int, Ev E 235 [.agg [vi x0, vi x1, vi x2], .agg [vi x3, vi x4, vi x5], .agg [vi x6, vi x7, vi x8]] ⟨vi r, []⟩ := by
  have key := Ev.of_s (R := fun res => ∃ r : Int, res = ⟨vi r, []⟩) E_235 (X_235 [.agg [vi x0, vi x1, vi x2], .agg [vi x3, vi x4, vi x5], .agg [vi x6, vi x7, vi x8]]) rfl ?_
  · obtain ⟨res, h1, r, rfl⟩ := key
    exact ⟨r, h1⟩
  (conv => whnf); repeat' ((first | intro g | refine CallS.mk _ (far_ev _ _ _) ?_ | refine CallS.mk _ (sign2_ev _ _ _ _) ?_ | refine st ?_ | (first | refine b1 ?_ ?_ | refine b2 ?_ ?_ | refine Br.mk ?_ ?_) <;> intro hc | exact rfl) <;> conv => whnf)
  all_goals exact ⟨_, rfl⟩
noncomputable def spotSideF (x0 x1 x2 x3 x4 x5 x6 x7 x8 : Int) : Int := (spotSide_tot x0 x1 x2 x3 x4 x5 x6 x7 x8).choose
theorem spotSide_ev (x0 x1 x2 x3 x4 x5 x6 x7 x8 : Int) : Ev E 235 [.agg [vi x0, vi x1, vi x2], .agg [vi x3, vi x4, vi x5], .agg [vi x6, vi x7, vi x8]] ⟨vi (spotSideF x0 x1 x2 x3 x4 x5 x6 x7 x8), []⟩ := (spotSide_tot x0 x1 x2 x3 x4 x5 x6 x7 x8).choose_spec

theorem on_tot (x0 x1 x2 x3 x4 x5 x6 x7 : Int) : ∃ r : Bool, Ev E 200 [.agg [vi x0, vi x1, vi x2], .agg [vi x3, vi x4, vi x5], .agg [vi x6, vi x7]] ⟨.bool r, []⟩ := by
  have key := Ev.of_s (R := fun res => ∃ r : Bool, res = ⟨.bool r, []⟩) E_200 (X_200 [.agg [vi x0, vi x1, vi x2], .agg [vi x3, vi x4, vi x5], .agg [vi x6, vi x7]]) rfl ?_
  · obtain ⟨res, h1, r, rfl⟩ := key
    exact ⟨r, h1⟩
  (conv => whnf); repeat' ((first | intro g | refine CallS.mk _ (spotOf_ev _ _) ?_ | refine CallS.mk _ (spotSide_ev _ _ _ _ _ _ _ _ _) ?_ | refine CallS.mk _ (sside_ev _ _ _ _ _) ?_ | refine st ?_ | (first | refine b1 ?_ ?_ | refine b2 ?_ ?_ | refine Br.mk ?_ ?_) <;> intro hc | exact rfl) <;> conv => whnf)
  all_goals exact ⟨_, rfl⟩
noncomputable def onF (x0 x1 x2 x3 x4 x5 x6 x7 : Int) : Bool := (on_tot x0 x1 x2 x3 x4 x5 x6 x7).choose
theorem on_ev (x0 x1 x2 x3 x4 x5 x6 x7 : Int) : Ev E 200 [.agg [vi x0, vi x1, vi x2], .agg [vi x3, vi x4, vi x5], .agg [vi x6, vi x7]] ⟨.bool (onF x0 x1 x2 x3 x4 x5 x6 x7), []⟩ := (on_tot x0 x1 x2 x3 x4 x5 x6 x7).choose_spec

theorem raySpot_tot (x0 x1 x2 x3 x4 x5 x6 x7 : Int) : ∃ r : Int, Ev E 201 [.agg [vi x0, vi x1, vi x2], .agg [vi x3, vi x4, vi x5], .agg [vi x6, vi x7]] ⟨vi r, []⟩ := by
  have key := Ev.of_s (R := fun res => ∃ r : Int, res = ⟨vi r, []⟩) E_201 (X_201 [.agg [vi x0, vi x1, vi x2], .agg [vi x3, vi x4, vi x5], .agg [vi x6, vi x7]]) rfl ?_
  · obtain ⟨res, h1, r, rfl⟩ := key
    exact ⟨r, h1⟩
  (conv => whnf); repeat' ((first | intro g | refine CallS.mk _ (spotOf_ev _ _) ?_ | refine CallS.mk _ (above_ev _ _ _ _ _) ?_ | refine CallS.mk _ (spotSide_ev _ _ _ _ _ _ _ _ _) ?_ | refine st ?_ | (first | refine b1 ?_ ?_ | refine b2 ?_ ?_ | refine Br.mk ?_ ?_) <;> intro hc | exact rfl) <;> conv => whnf)
  all_goals exact ⟨_, rfl⟩
noncomputable def raySpotF (x0 x1 x2 x3 x4 x5 x6 x7 : Int) : Int := (raySpot_tot x0 x1 x2 x3 x4 x5 x6 x7).choose
theorem raySpot_ev (x0 x1 x2 x3 x4 x5 x6 x7 : Int) : Ev E 201 [.agg [vi x0, vi x1, vi x2], .agg [vi x3, vi x4, vi x5], .agg [vi x6, vi x7]] ⟨vi (raySpotF x0 x1 x2 x3 x4 x5 x6 x7), []⟩ := (raySpot_tot x0 x1 x2 x3 x4 x5 x6 x7).choose_spec

theorem beyond_tot (x0 x1 x2 x3 x4 x5 x6 x7 x8 x9 x10 x11 x12 x13 : Int) : ∃ r : Bool, Ev E 202 [.agg [vi x0, vi x1, vi x2, vi x3, vi x4, vi x5, vi x6], .agg [vi x7, vi x8, vi x9, vi x10, vi x11, vi x12, vi x13]] ⟨.bool r, []⟩ := by
  have key := Ev.of_s (R := fun res => ∃ r : Bool, res = ⟨.bool r, []⟩) E_202 (X_202 [.agg [vi x0, vi x1, vi x2, vi x3, vi x4, vi x5, vi x6], .agg [vi x7, vi x8, vi x9, vi x10, vi x11, vi x12, vi x13]]) rfl ?_
  · obtain ⟨res, h1, r, rfl⟩ := key
    exact ⟨r, h1⟩
  (conv => whnf); repeat' ((first | intro g | refine CallS.mk _ (cmp_ev _ _ _ _) ?_ | refine CallS.mk _ (spotSide_ev _ _ _ _ _ _ _ _ _) ?_ | refine st ?_ | (first | refine b1 ?_ ?_ | refine b2 ?_ ?_ | refine Br.mk ?_ ?_) <;> intro hc | exact rfl) <;> conv => whnf)
  all_goals exact ⟨_, rfl⟩
noncomputable def beyondF (x0 x1 x2 x3 x4 x5 x6 x7 x8 x9 x10 x11 x12 x13 : Int) : Bool := (beyond_tot x0 x1 x2 x3 x4 x5 x6 x7 x8 x9 x10 x11 x12 x13).choose
theorem beyond_ev (x0 x1 x2 x3 x4 x5 x6 x7 x8 x9 x10 x11 x12 x13 : Int) : Ev E 202 [.agg [vi x0, vi x1, vi x2, vi x3, vi x4, vi x5, vi x6], .agg [vi x7, vi x8, vi x9, vi x10, vi x11, vi x12, vi x13]] ⟨.bool (beyondF x0 x1 x2 x3 x4 x5 x6 x7 x8 x9 x10 x11 x12 x13), []⟩ := (beyond_tot x0 x1 x2 x3 x4 x5 x6 x7 x8 x9 x10 x11 x12 x13).choose_spec

end Go.AM

set_option maxRecDepth 20000
namespace Go.AM

structure Spot where
  x : Int
  y : Int
  z : Int
def Spot.v (s : Spot) : V := .agg [vi s.x, vi s.y, vi s.z]
structure FTrace where
  id : Int
  spots : List Spot
  left : Int
  right : Int
def FTrace.v (t : FTrace) : V := .agg [vi t.id, .lit 3 (t.spots.map Spot.v), vi t.left, vi t.right]
theorem Spot.pures (l : List Spot) : V.arePure (l.map Spot.v) = true := AM.pures (fun _ => rfl) l
theorem FTrace.pures (l : List FTrace) : V.arePure (l.map FTrace.v) = true := AM.pures (fun _ => rfl) l
def TFit (ts : List FTrace) : Prop := ts.length < 1000 ∧ ∀ t ∈ ts, t.spots.length ≤ 5

set_option maxHeartbeats 4000000 in
theorem traces_ex {es : List Edge} {n : Nat} (he : EFit es n) (hn : n < 1000) : ∃ res, Ev E 164 [.lit 4 (es.map Edge.v)] res ∧ ∃ ts : List FTrace, TFit ts ∧ res = ⟨.own 4 (ts.map FTrace.v), []⟩ := by
  refine Ev.of_s E_164 (X_164 _) rfl ?_
  have hel := he.1
  (conv => whnf); repeat' ((first | intro g | refine st ?_ | (first | refine b1 ?_ ?_ | refine b2 ?_ ?_ | refine Br.mk ?_ ?_) <;> intro hc | exact rfl) <;> conv => whnf)
  refine LoopS.by (fun ((k, ts, g) : Nat × List FTrace × Nat) => ⟨[(0, .lit 4 (es.map Edge.v)), (3, .sl 65 g 0 ts.length), (4, vnat k)], [(65, ⟨g, 4, true, false, some (ts.map FTrace.v)⟩)]⟩)
    (fun (k, ts, g) => k ≤ es.length ∧ ts.length = k ∧ ∀ t ∈ ts, t.spots.length ≤ 5) (fun (k, _) => es.length - k) (0, [], g) (by (refine ⟨?_, ?_⟩ <;> repeat' (first | exact True.intro | refine ai ?_ | refine And.intro ?_ ?_))) ⟨by simp, by simp, by simp⟩ ?_
  rintro ⟨k, ts, g⟩ ⟨hk, ht, hts⟩
  try dsimp only at hk ht hts
  by_cases hlt : k < es.length
  · obtain ⟨e, he'⟩ : ∃ e, es[k]? = some e := ⟨_, get_lt hlt⟩
    have hlf := he.2 e (List.mem_of_getElem? he')
    have hl1 := hlf.1
    have hl2 := hlf.2
    (conv => whnf); repeat' ((first | intro g | refine Wit.mk _ (map_get he' rfl) ?_ | refine st ?_ | (first | refine b1 ?_ ?_ | refine b2 ?_ ?_ | refine Br.mk ?_ ?_) <;> intro hc | exact rfl) <;> conv => whnf)
    rename_i g5
    refine LoopS.by (fun ((i, ss, og) : Nat × List Spot × Option Nat) => ⟨[(0, .lit 4 (es.map Edge.v)), (3, .sl 65 g5 0 ts.length), (4, vnat k), (5, .ptr 96 g 0 0), (6, vnat i)],
      match og with
      | none => [(65, ⟨g5, 4, true, false, some (ts.map FTrace.v)⟩), (96, ⟨g, 4, false, false, some [.agg [vi e.id, .nils, vi e.left, vi e.right]]⟩)]
      | some g9 => [(65, ⟨g5, 4, true, false, some (ts.map FTrace.v)⟩), (96, ⟨g, 4, false, false, some [.agg [vi e.id, .sl 99 g9 0 ss.length, vi e.left, vi e.right]]⟩), (99, ⟨g9, 3, true, false, some (ss.map Spot.v)⟩)]⟩)
      (fun (i, ss, og) => i ≤ e.line.length ∧ ss.length = i ∧ (og = none → ss = [])) (fun (i, _) => e.line.length - i) (0, [], none) ?_ ⟨by simp, by simp, by simp⟩ ?_
    · (refine ⟨?_, ?_⟩ <;> repeat' (first | exact True.intro | refine ai ?_ | refine And.intro ?_ ?_))
    rintro ⟨i, ss, og⟩ ⟨hi, hs, hog⟩
    try dsimp only at hi hs hog
    by_cases hli : i < e.line.length
    · obtain ⟨x, hx⟩ : ∃ x, e.line[i]? = some x := ⟨_, get_lt hli⟩
      have hsp : Ev E 199 [x.v] ⟨.agg [vi x.x, vi x.y, vi 1], []⟩ := spotOf_ev x.x x.y
      cases og with
      | none =>
        obtain rfl := hog rfl
        (conv => whnf); repeat' ((first | intro g | refine Wit.mk _ (map_get he' rfl) ?_ | refine Wit.mk _ (map_get hx rfl) ?_ | refine CallS.mk _ (hsp) ?_ | refine st ?_ | (first | refine b1 ?_ ?_ | refine b2 ?_ ?_ | refine Br.mk ?_ ?_) <;> intro hc | exact rfl) <;> conv => whnf)
        exact NxtS.mk (i + 1, [⟨x.x, x.y, 1⟩], some g) (by first | omega | (dsimp only; omega)) ⟨(by first | omega | (dsimp only; omega)), by simp at hs ⊢; omega, by simp⟩ (by (refine ⟨?_, ?_⟩ <;> repeat' (first | exact True.intro | refine ai ?_ | refine And.intro ?_ ?_)))
      | some g9 =>
        (conv => whnf); repeat' ((first | intro g | refine Wit.mk _ (map_get he' rfl) ?_ | refine Wit.mk _ (map_get hx rfl) ?_ | refine CallS.mk _ (hsp) ?_ | refine st ?_ | (first | refine b1 ?_ ?_ | refine b2 ?_ ?_ | refine Br.mk ?_ ?_) <;> intro hc | exact rfl) <;> conv => whnf)
        exact NxtS.mk (i + 1, ss ++ [⟨x.x, x.y, 1⟩], some g) (by first | omega | (dsimp only; omega)) ⟨(by first | omega | (dsimp only; omega)), by simp; omega, by simp⟩ (by (refine ⟨?_, ?_⟩ <;> repeat' (first | exact True.intro | refine ai ?_ | refine And.intro ?_ ?_)))
    · cases og with
      | none =>
        obtain rfl := hog rfl
        simp at hs
        omega
      | some g9 =>
        (conv => whnf); repeat' ((first | intro g | refine Wit.mk _ (map_get he' rfl) ?_ | refine st ?_ | (first | refine b1 ?_ ?_ | refine b2 ?_ ?_ | refine Br.mk ?_ ?_) <;> intro hc | exact rfl) <;> conv => whnf)
        refine NxtS.mk (k + 1, ts ++ [⟨e.id, ss, e.left, e.right⟩], g) (by first | omega | (dsimp only; omega)) ⟨(by first | omega | (dsimp only; omega)), by simp; omega, ?_⟩ (by (refine ⟨?_, ?_⟩ <;> repeat' (first | exact True.intro | refine ai ?_ | refine And.intro ?_ ?_)))
        intro t h
        rcases List.mem_append.1 h with h | h
        · exact hts t h
        · have : t = ⟨e.id, ss, e.left, e.right⟩ := by simpa using h
          subst this; dsimp only; omega
  · (conv => whnf); repeat' ((first | intro g | refine st ?_ | (first | refine b1 ?_ ?_ | refine b2 ?_ ?_ | refine Br.mk ?_ ?_) <;> intro hc | exact rfl) <;> conv => whnf)
    exact ⟨ts, ⟨by omega, hts⟩, rfl⟩
end Go.AM

set_option maxRecDepth 20000
namespace Go.AM

set_option maxHeartbeats 4000000 in
theorem atTraces_tot {ts : List FTrace} (ht : TFit ts) (p : Pt) : ∃ (r : Int) (b : Bool), Ev E 163 [.lit 4 (ts.map FTrace.v), p.v] ⟨.tuple [vi r, .bool b], []⟩ := by
  have key := Ev.of_s (R := fun res => ∃ (r : Int) (b : Bool), res = ⟨.tuple [vi r, .bool b], []⟩) E_163 (X_163 [.lit 4 (ts.map FTrace.v), p.v]) rfl ?_
  · obtain ⟨res, h1, r, b, rfl⟩ := key
    exact ⟨r, b, h1⟩
  have hsp : Ev E 199 [p.v] ⟨.agg [vi p.x, vi p.y, vi 1], []⟩ := spotOf_ev p.x p.y
  have htl := ht.1
  (conv => whnf); repeat' ((first | intro g | refine CallS.mk _ (hsp) ?_ | refine CallS.mk _ (bounded_ev _ _ _) ?_ | refine st ?_ | (first | refine b1 ?_ ?_ | refine b2 ?_ ?_ | refine Br.mk ?_ ?_) <;> intro hc | exact rfl) <;> conv => whnf)
  · exact ⟨_, _, rfl⟩
  refine LoopS.by (fun (k : Nat) => ⟨[(0, .lit 4 (ts.map FTrace.v)), (3, .ptr 64 g 0 0), (6, vnat k)], [(64, ⟨g, 2, false, false, some [p.v]⟩)]⟩)
    (fun k => k ≤ ts.length) (fun k => ts.length - k) 0 (by (refine ⟨?_, ?_⟩ <;> repeat' (first | exact True.intro | refine ai ?_ | refine And.intro ?_ ?_))) (by first | omega | (dsimp only; omega)) ?_
  intro k hk
  by_cases hlt : k < ts.length
  · obtain ⟨t, he⟩ : ∃ t, ts[k]? = some t := ⟨_, get_lt hlt⟩
    have htf := ht.2 t (List.mem_of_getElem? he)
    (conv => whnf); repeat' ((first | intro g | refine st ?_ | (first | refine b1 ?_ ?_ | refine b2 ?_ ?_ | refine Br.mk ?_ ?_) <;> intro hc | exact rfl) <;> conv => whnf)
    refine LoopS.by (fun (i : Nat) => ⟨[(0, .lit 4 (ts.map FTrace.v)), (3, .ptr 64 g 0 0), (6, vnat k), (7, vnat i)], [(64, ⟨g, 2, false, false, some [p.v]⟩)]⟩)
      (fun i => i ≤ t.spots.length) (fun i => t.spots.length - i) 0 (by (refine ⟨?_, ?_⟩ <;> repeat' (first | exact True.intro | refine ai ?_ | refine And.intro ?_ ?_))) (by first | omega | (dsimp only; omega)) ?_
    intro i hi
    by_cases hli : i < t.spots.length
    · obtain ⟨s, hs⟩ : ∃ s, t.spots[i]? = some s := ⟨_, get_lt hli⟩
      have hb : Ev E 198 [s.v] ⟨.bool (boundedF s.x s.y s.z), []⟩ := bounded_ev s.x s.y s.z
      (conv => whnf); repeat' ((first | intro g | refine Wit.mk _ (map_get he rfl) ?_ | refine Wit.mk _ (map_get hs rfl) ?_ | refine CallS.mk _ (hb) ?_ | refine st ?_ | (first | refine b1 ?_ ?_ | refine b2 ?_ ?_ | refine Br.mk ?_ ?_) <;> intro hc | exact rfl) <;> conv => whnf)
      · exact ⟨_, _, rfl⟩
      · exact NxtS.mk (i + 1) (by first | omega | (dsimp only; omega)) (by first | omega | (dsimp only; omega)) (by (refine ⟨?_, ?_⟩ <;> repeat' (first | exact True.intro | refine ai ?_ | refine And.intro ?_ ?_)))
    · (conv => whnf); repeat' ((first | intro g | refine Wit.mk _ (map_get he rfl) ?_ | refine st ?_ | (first | refine b1 ?_ ?_ | refine b2 ?_ ?_ | refine Br.mk ?_ ?_) <;> intro hc | exact rfl) <;> conv => whnf)
      exact NxtS.mk (k + 1) (by first | omega | (dsimp only; omega)) (by first | omega | (dsimp only; omega)) (by (refine ⟨?_, ?_⟩ <;> repeat' (first | exact True.intro | refine ai ?_ | refine And.intro ?_ ?_)))
  · (conv => whnf); repeat' ((first | intro g | refine st ?_ | (first | refine b1 ?_ ?_ | refine b2 ?_ ?_ | refine Br.mk ?_ ?_) <;> intro hc | exact rfl) <;> conv => whnf)
    rename_i g3
    refine LoopS.by (fun ((k, found, a1, a2, a3, a4, a5, a6, a7) : Nat × Bool × Int × Int × Int × Int × Int × Int × Int) => ⟨[(0, .lit 4 (ts.map FTrace.v)), (3, .ptr 64 g3 0 0), (8, .bool found), (9, .ptr 160 g 0 0), (10, vnat k)], [(64, ⟨g3, 2, false, false, some [p.v]⟩), (160, ⟨g, 7, false, false, some [.agg [vi a1, vi a2, vi a3, vi a4, vi a5, vi a6, vi a7]]⟩)]⟩)
      (fun (k, _) => k ≤ ts.length) (fun (k, _) => ts.length - k) (0, false, 0, 0, 0, 0, 0, 0, 0) (by (refine ⟨?_, ?_⟩ <;> repeat' (first | exact True.intro | refine ai ?_ | refine And.intro ?_ ?_))) (by first | omega | (dsimp only; omega)) ?_
    rintro ⟨k, found, a1, a2, a3, a4, a5, a6, a7⟩ hk
    try dsimp only at hk
    by_cases hlt : k < ts.length
    · obtain ⟨t, he⟩ : ∃ t, ts[k]? = some t := ⟨_, get_lt hlt⟩
      have htf := ht.2 t (List.mem_of_getElem? he)
      (conv => whnf); repeat' ((first | intro g | refine st ?_ | (first | refine b1 ?_ ?_ | refine b2 ?_ ?_ | refine Br.mk ?_ ?_) <;> intro hc | exact rfl) <;> conv => whnf)
      refine LoopS.by (fun ((j, found, a1, a2, a3, a4, a5, a6, a7) : Nat × Bool × Int × Int × Int × Int × Int × Int × Int) => ⟨[(0, .lit 4 (ts.map FTrace.v)), (3, .ptr 64 g3 0 0), (8, .bool found), (9, .ptr 160 g 0 0), (10, vnat k), (11, vnat j)], [(64, ⟨g3, 2, false, false, some [p.v]⟩), (160, ⟨g, 7, false, false, some [.agg [vi a1, vi a2, vi a3, vi a4, vi a5, vi a6, vi a7]]⟩)]⟩)
        (fun (j, _) => j ≤ t.spots.length) (fun (j, _) => t.spots.length - j) (0, found, a1, a2, a3, a4, a5, a6, a7) (by (refine ⟨?_, ?_⟩ <;> repeat' (first | exact True.intro | refine ai ?_ | refine And.intro ?_ ?_))) (by first | omega | (dsimp only; omega)) ?_
      rintro ⟨j, found, a1, a2, a3, a4, a5, a6, a7⟩ hj
      try dsimp only at hj
      have e1 : IntKind.i64.wrap ((j : Int) + 1) = ((j + 1 : Nat) : Int) := (wrap64 (by omega) (by omega)).trans (by omega)
      by_cases hlj : j + 1 < t.spots.length
      · obtain ⟨x, hx⟩ : ∃ s, t.spots[j]? = some s := ⟨_, get_lt (by omega)⟩
        obtain ⟨y, hy⟩ : ∃ s, t.spots[j + 1]? = some s := ⟨_, get_lt hlj⟩
        have hon : Ev E 200 [x.v, y.v, p.v] ⟨.bool (onF x.x x.y x.z y.x y.y y.z p.x p.y), []⟩ := on_ev _ _ _ _ _ _ _ _
        have hray : Ev E 201 [x.v, y.v, p.v] ⟨vi (raySpotF x.x x.y x.z y.x y.y y.z p.x p.y), []⟩ := raySpot_ev _ _ _ _ _ _ _ _
        cases found
        · (conv => whnf); repeat' ((first | intro g | refine Wit.mk _ (map_get he rfl) ?_ | refine Wit.mk _ (map_get hx rfl) ?_ | refine Wit.mk _ (map_get hy e1) ?_ | refine CallS.mk _ (hon) ?_ | refine CallS.mk _ (hray) ?_ | refine CallS.mk _ (beyond_ev _ _ _ _ _ _ _ _ _ _ _ _ _ _) ?_ | refine st ?_ | (first | refine b1 ?_ ?_ | refine b2 ?_ ?_ | refine Br.mk ?_ ?_) <;> intro hc | exact rfl) <;> conv => whnf)
          · exact ⟨_, _, rfl⟩
          · exact NxtS.mk (j + 1, true, y.x, y.y, y.z, x.x, x.y, x.z, t.left) (by first | omega | (dsimp only; omega)) (by first | omega | (dsimp only; omega)) (by (refine ⟨?_, ?_⟩ <;> repeat' (first | exact True.intro | refine ai ?_ | refine And.intro ?_ ?_)))
          · exact NxtS.mk (j + 1, true, x.x, x.y, x.z, y.x, y.y, y.z, t.right) (by first | omega | (dsimp only; omega)) (by first | omega | (dsimp only; omega)) (by (refine ⟨?_, ?_⟩ <;> repeat' (first | exact True.intro | refine ai ?_ | refine And.intro ?_ ?_)))
          · exact NxtS.mk (j + 1, false, a1, a2, a3, a4, a5, a6, a7) (by first | omega | (dsimp only; omega)) (by first | omega | (dsimp only; omega)) (by (refine ⟨?_, ?_⟩ <;> repeat' (first | exact True.intro | refine ai ?_ | refine And.intro ?_ ?_)))
        · (conv => whnf); repeat' ((first | intro g | refine Wit.mk _ (map_get he rfl) ?_ | refine Wit.mk _ (map_get hx rfl) ?_ | refine Wit.mk _ (map_get hy e1) ?_ | refine CallS.mk _ (hon) ?_ | refine CallS.mk _ (hray) ?_ | refine CallS.mk _ (beyond_ev _ _ _ _ _ _ _ _ _ _ _ _ _ _) ?_ | refine st ?_ | (first | refine b1 ?_ ?_ | refine b2 ?_ ?_ | refine Br.mk ?_ ?_) <;> intro hc | exact rfl) <;> conv => whnf)
          · exact ⟨_, _, rfl⟩
          · exact NxtS.mk (j + 1, true, y.x, y.y, y.z, x.x, x.y, x.z, t.left) (by first | omega | (dsimp only; omega)) (by first | omega | (dsimp only; omega)) (by (refine ⟨?_, ?_⟩ <;> repeat' (first | exact True.intro | refine ai ?_ | refine And.intro ?_ ?_)))
          · exact NxtS.mk (j + 1, true, a1, a2, a3, a4, a5, a6, a7) (by first | omega | (dsimp only; omega)) (by first | omega | (dsimp only; omega)) (by (refine ⟨?_, ?_⟩ <;> repeat' (first | exact True.intro | refine ai ?_ | refine And.intro ?_ ?_)))
          · exact NxtS.mk (j + 1, true, x.x, x.y, x.z, y.x, y.y, y.z, t.right) (by first | omega | (dsimp only; omega)) (by first | omega | (dsimp only; omega)) (by (refine ⟨?_, ?_⟩ <;> repeat' (first | exact True.intro | refine ai ?_ | refine And.intro ?_ ?_)))
          · exact NxtS.mk (j + 1, true, a1, a2, a3, a4, a5, a6, a7) (by first | omega | (dsimp only; omega)) (by first | omega | (dsimp only; omega)) (by (refine ⟨?_, ?_⟩ <;> repeat' (first | exact True.intro | refine ai ?_ | refine And.intro ?_ ?_)))
          · exact NxtS.mk (j + 1, true, a1, a2, a3, a4, a5, a6, a7) (by first | omega | (dsimp only; omega)) (by first | omega | (dsimp only; omega)) (by (refine ⟨?_, ?_⟩ <;> repeat' (first | exact True.intro | refine ai ?_ | refine And.intro ?_ ?_)))
      · (conv => whnf); repeat' ((first | intro g | refine Wit.mk _ (map_get he rfl) ?_ | refine st ?_ | (first | refine b1 ?_ ?_ | refine b2 ?_ ?_ | refine Br.mk ?_ ?_) <;> intro hc | exact rfl) <;> conv => whnf)
        exact NxtS.mk (k + 1, found, a1, a2, a3, a4, a5, a6, a7) (by first | omega | (dsimp only; omega)) (by first | omega | (dsimp only; omega)) (by (refine ⟨?_, ?_⟩ <;> repeat' (first | exact True.intro | refine ai ?_ | refine And.intro ?_ ?_)))
    · (conv => whnf); repeat' ((first | intro g | refine st ?_ | (first | refine b1 ?_ ?_ | refine b2 ?_ ?_ | refine Br.mk ?_ ?_) <;> intro hc | exact rfl) <;> conv => whnf)
      exact ⟨_, _, rfl⟩
end Go.AM

set_option maxRecDepth 20000
namespace Go.AM

set_option maxHeartbeats 4000000 in
theorem at_tot {es : List Edge} {n : Nat} (he : EFit es n) (hn : n < 1000) (p : Pt) : ∃ (r : Int) (b : Bool), Ev E 121 [.lit 4 (es.map Edge.v), p.v] ⟨.tuple [vi r, .bool b], []⟩ := by
  have key := Ev.of_s (R := fun res => ∃ (r : Int) (b : Bool), res = ⟨.tuple [vi r, .bool b], []⟩) E_121 (X_121 [.lit 4 (es.map Edge.v), p.v]) rfl ?_
  · obtain ⟨res, h1, r, b, rfl⟩ := key
    exact ⟨r, b, h1⟩
  (conv => whnf); repeat' ((first | intro g | refine st ?_ | (first | refine b1 ?_ ?_ | refine b2 ?_ ?_ | refine Br.mk ?_ ?_) <;> intro hc | exact rfl) <;> conv => whnf)
  refine CallS.ex (traces_ex he hn) ?_
  rintro _ ⟨ts, ht, rfl⟩
  obtain ⟨r, b, hr⟩ := atTraces_tot ht p
  (conv => whnf); repeat' ((first | intro g | refine CallS.mk _ (hr) ?_ | refine st ?_ | (first | refine b1 ?_ ?_ | refine b2 ?_ ?_ | refine Br.mk ?_ ?_) <;> intro hc | exact rfl) <;> conv => whnf)
  exact ⟨_, _, rfl⟩

set_option maxHeartbeats 4000000 in
theorem district_tot (m : GMap) (hf : m.faces.length < 1000) (id : Int) : ∃ r : Int, Ev E 122 [m.v, vi id] ⟨vi r, []⟩ := by
  have key := Ev.of_s (R := fun res => ∃ r : Int, res = ⟨vi r, []⟩) E_122 (X_122 [m.v, vi id]) rfl ?_
  · obtain ⟨res, h1, r, rfl⟩ := key
    exact ⟨r, h1⟩
  (conv => whnf); repeat' ((first | intro g | refine st ?_ | (first | refine b1 ?_ ?_ | refine b2 ?_ ?_ | refine Br.mk ?_ ?_) <;> intro hc | exact rfl) <;> conv => whnf)
  refine LoopS.by (fun (k : Nat) => ⟨[(1, vi id), (2, .ptr 48 g 0 0), (5, vnat k)], [(48, ⟨g, 4, false, false, some [m.v]⟩)]⟩)
    (fun k => k ≤ m.faces.length) (fun k => m.faces.length - k) 0 (by (refine ⟨?_, ?_⟩ <;> repeat' (first | exact True.intro | refine ai ?_ | refine And.intro ?_ ?_))) (by first | omega | (dsimp only; omega)) ?_
  intro k hk
  by_cases hlt : k < m.faces.length
  · obtain ⟨f, hx⟩ : ∃ f, m.faces[k]? = some f := ⟨_, get_lt hlt⟩
    (conv => whnf); repeat' ((first | intro g | refine Wit.mk _ (map_get hx rfl) ?_ | refine st ?_ | (first | refine b1 ?_ ?_ | refine b2 ?_ ?_ | refine Br.mk ?_ ?_) <;> intro hc | exact rfl) <;> conv => whnf)
    · exact ⟨_, rfl⟩
    · exact NxtS.mk (k + 1) (by first | omega | (dsimp only; omega)) (by first | omega | (dsimp only; omega)) (by (refine ⟨?_, ?_⟩ <;> repeat' (first | exact True.intro | refine ai ?_ | refine And.intro ?_ ?_)))
  · (conv => whnf); repeat' ((first | intro g | refine st ?_ | (first | refine b1 ?_ ?_ | refine b2 ?_ ?_ | refine Br.mk ?_ ?_) <;> intro hc | exact rfl) <;> conv => whnf)
    exact ⟨_, rfl⟩
end Go.AM

set_option maxRecDepth 20000
namespace Go.AM

/-- places with the numbers 61, 62, .. -/
def PFit (ps : List Place) (n : Nat) : Prop := ps.length ≤ n ∧ ∀ (i : Nat) (p : Place), ps[i]? = some p → p.id = 61 + (i : Int)
theorem PFit.snoc {ps : List Place} {n : Nat} {p : Place} (h : PFit ps n) (k : p.id = 61 + (ps.length : Int)) : PFit (ps ++ [p]) (n + 1) := by
  refine ⟨by have := h.1; simp; omega, fun i x hx => ?_⟩
  by_cases hi : i < ps.length
  · rw [List.getElem?_append_left hi] at hx
    exact h.2 i x hx
  · rw [List.getElem?_append_right (by omega)] at hx
    have hl : i - ps.length = 0 := by
      have := (List.getElem?_eq_some_iff.1 hx).1
      simp at this; omega
    rw [hl] at hx
    obtain rfl : p = x := by simpa using hx
    rw [k]; congr 1; omega
theorem PFit.mono {ps : List Place} {n m : Nat} (h : PFit ps n) (k : n ≤ m) : PFit ps m := ⟨Nat.le_trans h.1 k, h.2⟩

set_option maxHeartbeats 4000000 in
theorem places_ex {l : List Int} (hl : l.length < 9223372036854775808) {m : GMap} {n : Nat} (he : EFit m.edges n) (hn : n < 1000) (hf : m.faces.length < 1000) : ∃ res, Ev E 87 [m.v, .lit 1 (l.map vi)] res ∧ ∃ ps : List Place, PFit ps 6 ∧ res = ⟨.own 7 (ps.map Place.v), []⟩ := by
  refine Ev.of_s E_87 (X_87 _) rfl ?_
  have n2 := fun a => next_ev hl 2 (a := a) (by omega) (by omega)
  have n3 := fun a => next_ev hl 3 (a := a) (by omega) (by omega)
  have n5 := fun a => next_ev hl 5 (a := a) (by omega) (by omega)
  have n10 := fun a => next_ev hl 10 (a := a) (by omega) (by omega)
  have n51 := fun a => next_ev hl 51 (a := a) (by omega) (by omega)
  have n60 := fun a => next_ev hl 60 (a := a) (by omega) (by omega)
  have n7 := next_ev hl 7 (a := 0) (by omega) (by omega)
  have hb := nextR_lt (l := l) (a := 0) (n := 7) (by omega) (by omega)
  generalize nextR l 0 7 = many at hb n7
  have hat : ∀ x y, ∃ rb : Int × Bool, Ev E 121 [.lit 4 (m.edges.map Edge.v), .agg [vi x, vi y]] ⟨.tuple [vi rb.1, .bool rb.2], []⟩ := by
    intro x y
    obtain ⟨r, b, h⟩ := at_tot he hn ⟨x, y⟩
    exact ⟨(r, b), h⟩
  obtain ⟨fr, hat⟩ : ∃ f : Int → Int → Int × Bool, ∀ x y, Ev E 121 [.lit 4 (m.edges.map Edge.v), .agg [vi x, vi y]] ⟨.tuple [vi (f x y).1, .bool (f x y).2], []⟩ := ⟨fun x y => (hat x y).choose, fun x y => (hat x y).choose_spec⟩
  obtain ⟨fd, hd⟩ : ∃ f : Int → Int, ∀ x, Ev E 122 [m.v, vi x] ⟨vi (f x), []⟩ := ⟨fun x => (district_tot m hf x).choose, fun x => (district_tot m hf x).choose_spec⟩
  (conv => whnf); repeat' ((first | intro g | refine CallS.mk _ (n7) ?_ | refine st ?_ | (refine Wit.strS ?_; intro s) | (first | refine b1 ?_ ?_ | refine b2 ?_ ?_ | refine Br.mk ?_ ?_) <;> intro hc | exact rfl) <;> conv => whnf)
  rename_i g2 _ gd
  refine LoopS.by (fun ((k, ps, a, g) : Nat × List Place × Nat × Nat) => ⟨[(2, .ptr 48 g2 0 0), (5, .ptr 256 gd 0 0), (6, .sl 113 g 0 ps.length), (7, vnat many), (8, vnat k)],
      [(48, ⟨g2, 4, false, false, some [m.v]⟩), (256, ⟨gd, 2, false, false, some [drawV l a]⟩), (113, ⟨g, 7, true, false, some (ps.map Place.v)⟩)]⟩)
    (fun (k, ps, a, g) => k ≤ many ∧ PFit ps k) (fun (k, _) => many - k) (0, [], nextA l 0, g) (by (refine ⟨?_, ?_⟩ <;> repeat' (first | exact True.intro | refine ai ?_ | refine And.intro ?_ ?_))) ⟨by simp, by simp, by simp⟩ ?_
  rintro ⟨k, ps, a, g⟩ ⟨hk, hp⟩
  try dsimp only at hk hp
  by_cases hlt : k < many
  · have hpl := hp.1
    have hidw : IntKind.i64.wrap (61 + (ps.length : Int)) = 61 + (ps.length : Int) := wrap64 (by omega) (by omega)
    (conv => whnf); repeat' ((first | intro g | refine CallS.mk _ (n2 _) ?_ | refine CallS.mk _ (n3 _) ?_ | refine CallS.mk _ (n5 _) ?_ | refine CallS.mk _ (n10 _) ?_ | refine CallS.mk _ (n51 _) ?_ | refine CallS.mk _ (n60 _) ?_ | refine CallS.mk _ (hat _ _) ?_ | refine CallS.mk _ (hd _) ?_ | refine st ?_ | (refine Wit.strS ?_; intro s) | (first | refine b1 ?_ ?_ | refine b2 ?_ ?_ | refine Br.mk ?_ ?_) <;> intro hc | exact rfl) <;> conv => whnf)
    · exact NxtS.mk (k + 1, ps ++ [⟨IntKind.i64.wrap (61 + (ps.length : Int)), _, _, _, _, _, _⟩], _, g) (by first | omega | (dsimp only; omega)) ⟨(by first | omega | (dsimp only; omega)), hp.snoc hidw⟩ (by (refine ⟨?_, ?_⟩ <;> repeat' (first | exact True.intro | refine ai ?_ | refine And.intro ?_ ?_)))
    · exact NxtS.mk (k + 1, ps, _, _) (by first | omega | (dsimp only; omega)) ⟨(by first | omega | (dsimp only; omega)), hp.mono (by omega)⟩ (by (refine ⟨?_, ?_⟩ <;> repeat' (first | exact True.intro | refine ai ?_ | refine And.intro ?_ ?_)))
    · exact NxtS.mk (k + 1, ps, _, _) (by first | omega | (dsimp only; omega)) ⟨(by first | omega | (dsimp only; omega)), hp.mono (by omega)⟩ (by (refine ⟨?_, ?_⟩ <;> repeat' (first | exact True.intro | refine ai ?_ | refine And.intro ?_ ?_)))
    · exact NxtS.mk (k + 1, ps ++ [⟨IntKind.i64.wrap (61 + (ps.length : Int)), _, _, _, _, _, _⟩], _, g) (by first | omega | (dsimp only; omega)) ⟨(by first | omega | (dsimp only; omega)), hp.snoc hidw⟩ (by (refine ⟨?_, ?_⟩ <;> repeat' (first | exact True.intro | refine ai ?_ | refine And.intro ?_ ?_)))
    · exact NxtS.mk (k + 1, ps, _, _) (by first | omega | (dsimp only; omega)) ⟨(by first | omega | (dsimp only; omega)), hp.mono (by omega)⟩ (by (refine ⟨?_, ?_⟩ <;> repeat' (first | exact True.intro | refine ai ?_ | refine And.intro ?_ ?_)))
    · exact NxtS.mk (k + 1, ps, _, _) (by first | omega | (dsimp only; omega)) ⟨(by first | omega | (dsimp only; omega)), hp.mono (by omega)⟩ (by (refine ⟨?_, ?_⟩ <;> repeat' (first | exact True.intro | refine ai ?_ | refine And.intro ?_ ?_)))
  · (conv => whnf); repeat' ((first | intro g | refine st ?_ | (refine Wit.strS ?_; intro s) | (first | refine b1 ?_ ?_ | refine b2 ?_ ?_ | refine Br.mk ?_ ?_) <;> intro hc | exact rfl) <;> conv => whnf)
    exact ⟨ps, hp.mono (by omega), rfl⟩
end Go.AM
